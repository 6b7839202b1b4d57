-- Written by a program of this session (wip/tools/xprint.py) for this claim.
import Derived.Test.YtoanhimhomgjmaaPPrOx0
import Derived.Test.YtoanhimhomgjmaaPPrOx1
import Derived.Test.YtoanhimhomgjmaaPPrOx5
import Derived.Test.YtoanhimhomgjmaaPPrOx6
import Derived.Test.YtoanhimhomgjmaaPPrOx8
namespace Go.Proofs.Ytoanhimhomgjmaa.PPrO
open Go.RowKit Go.Proofs.YtoanhimhomgjmaaW.PrintWords Go.Proofs.YtoanhimhomgjmaaW.PrintLast Go.Proofs.YtoanhimhomgjmaaW.PrintMore
attribute [local go_sem] max2_int min2_int max_two min_two max_three min_three max_four min_four   -- for this text's walks alone
set_option linter.unusedVariables false
set_option linter.unusedSimpArgs false

/-! ### probe_Ack: function 11 -/
mutual
def probe_Ack.j0 : Nat → Int → List (S52) → Int → Int → Int → Int → Int → Int → Int → Int → Int → Int → Int → Int → Int → Int → Int → Int → Bool → Bool → Option (Int × (List (S52)) × Int × Int × Int × Int × Int × Int × Int × Int)
 | 0, _, _, _, _, _, _, _, _, _, _, _, _, _, _, _, _, _, _, _, _ => none
 | k + 1, x129000, x129001, x129002, x129003, x129004, x129005, x129006, x129007, x129008, x129009, x130000, x130001, x130002, x130003, x130004, x130005, x130006, x130007, x130008, x130009 => if x130008 = true then ((filt_Best.f x129001).bind fun t137 => (probe_Ack.j1 k (decide (x130007 ≥ t137)) x129000 x129001 x129002 x129003 x129004 x129005 x129006 x129007 x129008 x129009 x130000 x130001 x130002 x130003 x130004 x130005 x130006 x130007 x130008 x130009)) else (probe_Ack.j1 k true x129000 x129001 x129002 x129003 x129004 x129005 x129006 x129007 x129008 x129009 x130000 x130001 x130002 x130003 x130004 x130005 x130006 x130007 x130008 x130009)
def probe_Ack.j1 : Nat → Bool → Int → List (S52) → Int → Int → Int → Int → Int → Int → Int → Int → Int → Int → Int → Int → Int → Int → Int → Int → Bool → Bool → Option (Int × (List (S52)) × Int × Int × Int × Int × Int × Int × Int × Int)
 | 0, _, _, _, _, _, _, _, _, _, _, _, _, _, _, _, _, _, _, _, _, _ => none
 | k + 1, x36, x129000, x129001, x129002, x129003, x129004, x129005, x129006, x129007, x129008, x129009, x130000, x130001, x130002, x130003, x130004, x130005, x130006, x130007, x130008, x130009 => if x36 = true then ((filt_PushMax.f k x129001 10 x129006 x130007).bind fun t138 => (probe_Ack.j2 k x129000 t138 x129002 x129003 x129004 x129005 x129006 x129007 x129008 x129009 x130000 x130001 x130002 x130003 x130004 x130005 x130006 x130007 x130008 x130009)) else (probe_Ack.j2 k x129000 x129001 x129002 x129003 x129004 x129005 x129006 x129007 x129008 x129009 x130000 x130001 x130002 x130003 x130004 x130005 x130006 x130007 x130008 x130009)
def probe_Ack.j2 : Nat → Int → List (S52) → Int → Int → Int → Int → Int → Int → Int → Int → Int → Int → Int → Int → Int → Int → Int → Int → Bool → Bool → Option (Int × (List (S52)) × Int × Int × Int × Int × Int × Int × Int × Int)
 | 0, _, _, _, _, _, _, _, _, _, _, _, _, _, _, _, _, _, _, _, _ => none
 | k + 1, x129000, x129001, x129002, x129003, x129004, x129005, x129006, x129007, x129008, x129009, x130000, x130001, x130002, x130003, x130004, x130005, x130006, x130007, x130008, x130009 => (fix_Add.f x129003 10000).bind fun t141 => (if x130000 ≥ t141 then (probe_Ack.j3 k (decide (x130000 ≥ t141)) true x129000 x129001 x129002 x129003 x129004 x129005 x129006 x129007 x129008 x129009 x130000 x130001 x130002 x130003 x130004 x130005 x130006 x130007 x130008 x130009) else (probe_Ack.j3 k (decide (x130000 ≥ t141)) (decide (x130005 < x129002)) x129000 x129001 x129002 x129003 x129004 x129005 x129006 x129007 x129008 x129009 x130000 x130001 x130002 x130003 x130004 x130005 x130006 x130007 x130008 x130009))
def probe_Ack.j3 : Nat → Bool → Bool → Int → List (S52) → Int → Int → Int → Int → Int → Int → Int → Int → Int → Int → Int → Int → Int → Int → Int → Int → Bool → Bool → Option (Int × (List (S52)) × Int × Int × Int × Int × Int × Int × Int × Int)
 | 0, _, _, _, _, _, _, _, _, _, _, _, _, _, _, _, _, _, _, _, _, _, _ => none
 | k + 1, x5, x59, x129000, x129001, x129002, x129003, x129004, x129005, x129006, x129007, x129008, x129009, x130000, x130001, x130002, x130003, x130004, x130005, x130006, x130007, x130008, x130009 => if x59 = true then (probe_Ack.j4 k x5 x129000 x129001 x130005 x130000 x129004 x129005 x129006 x129007 x129008 x129009 x130000 x130001 x130002 x130003 x130004 x130005 x130006 x130007 x130008 x130009) else (probe_Ack.j4 k x5 x129000 x129001 x129002 x129003 x129004 x129005 x129006 x129007 x129008 x129009 x130000 x130001 x130002 x130003 x130004 x130005 x130006 x130007 x130008 x130009)
def probe_Ack.j4 : Nat → Bool → Int → List (S52) → Int → Int → Int → Int → Int → Int → Int → Int → Int → Int → Int → Int → Int → Int → Int → Int → Bool → Bool → Option (Int × (List (S52)) × Int × Int × Int × Int × Int × Int × Int × Int)
 | 0, _, _, _, _, _, _, _, _, _, _, _, _, _, _, _, _, _, _, _, _, _ => none
 | k + 1, x5, x129000, x129001, x129002, x129003, x129004, x129005, x129006, x129007, x129008, x129009, x130000, x130001, x130002, x130003, x130004, x130005, x130006, x130007, x130008, x130009 => (filt_Best.f x129001).bind fun t142 => (if x129000 = 0 then (if x130009 = true then (if x130008 = true then (probe_Ack.j5 k x5 t142 false x129000 x129001 x129002 x129003 x129004 x129005 x129006 x129007 x129008 x129009 x130000 x130001 x130002 x130003 x130004 x130005 x130006 x130007 x130008 x130009) else (if t142 > 0 then ((fix_Add.f x129004 (IntKind.u64.wrap (Int.tdiv x129004 4))).bind fun t143 => (probe_Ack.j5 k x5 t142 (decide (t142 ≥ t143)) x129000 x129001 x129002 x129003 x129004 x129005 x129006 x129007 x129008 x129009 x130000 x130001 x130002 x130003 x130004 x130005 x130006 x130007 x130008 x130009)) else (probe_Ack.j5 k x5 t142 false x129000 x129001 x129002 x129003 x129004 x129005 x129006 x129007 x129008 x129009 x130000 x130001 x130002 x130003 x130004 x130005 x130006 x130007 x130008 x130009))) else (probe_Ack.j5 k x5 t142 false x129000 x129001 x129002 x129003 x129004 x129005 x129006 x129007 x129008 x129009 x130000 x130001 x130002 x130003 x130004 x130005 x130006 x130007 x130008 x130009)) else (probe_Ack.j5 k x5 t142 false x129000 x129001 x129002 x129003 x129004 x129005 x129006 x129007 x129008 x129009 x130000 x130001 x130002 x130003 x130004 x130005 x130006 x130007 x130008 x130009))
def probe_Ack.j5 : Nat → Bool → Int → Bool → Int → List (S52) → Int → Int → Int → Int → Int → Int → Int → Int → Int → Int → Int → Int → Int → Int → Int → Int → Bool → Bool → Option (Int × (List (S52)) × Int × Int × Int × Int × Int × Int × Int × Int)
 | 0, _, _, _, _, _, _, _, _, _, _, _, _, _, _, _, _, _, _, _, _, _, _, _ => none
 | k + 1, x5, x7, x70, x129000, x129001, x129002, x129003, x129004, x129005, x129006, x129007, x129008, x129009, x130000, x130001, x130002, x130003, x130004, x130005, x130006, x130007, x130008, x130009 => if x70 = true then (some (x129000, x129001, x129002, x129003, x7, 0, x129006, x129007, x129008, x129009)) else (if x129000 = 0 then (if x130009 = true then (probe_Ack.j6 k x5 (!x130008) x129000 x129001 x129002 x129003 x129004 x129005 x129006 x129007 x129008 x129009 x130000 x130001 x130002 x130003 x130004 x130005 x130006 x130007 x130008 x130009) else (probe_Ack.j6 k x5 false x129000 x129001 x129002 x129003 x129004 x129005 x129006 x129007 x129008 x129009 x130000 x130001 x130002 x130003 x130004 x130005 x130006 x130007 x130008 x130009)) else (probe_Ack.j6 k x5 false x129000 x129001 x129002 x129003 x129004 x129005 x129006 x129007 x129008 x129009 x130000 x130001 x130002 x130003 x130004 x130005 x130006 x130007 x130008 x130009))
def probe_Ack.j6 : Nat → Bool → Bool → Int → List (S52) → Int → Int → Int → Int → Int → Int → Int → Int → Int → Int → Int → Int → Int → Int → Int → Int → Bool → Bool → Option (Int × (List (S52)) × Int × Int × Int × Int × Int × Int × Int × Int)
 | 0, _, _, _, _, _, _, _, _, _, _, _, _, _, _, _, _, _, _, _, _, _, _ => none
 | k + 1, x5, x100, x129000, x129001, x129002, x129003, x129004, x129005, x129006, x129007, x129008, x129009, x130000, x130001, x130002, x130003, x130004, x130005, x130006, x130007, x130008, x130009 => if x100 = true then ((fix_Add.f x129005 1).bind fun t144 => (if t144 = 3 then (some (1, x129001, x129002, x129003, x129004, t144, x129006, x129007, x129008, x129009)) else (some (x129000, x129001, x129002, x129003, x129004, t144, x129006, x129007, x129008, x129009)))) else (if x129000 = 1 then ((probe_Product.f x129000 x129001 x129002 x129003 x129004 x129005 x129006 x129007 x129008 x129009 256).bind fun t145 => (probe_Ack.j7 k x5 (decide (x130006 ≤ t145)) x129000 x129001 x129002 x129003 x129004 x129005 x129006 x129007 x129008 x129009 x130000 x130001 x130002 x130003 x130004 x130005 x130006 x130007 x130008 x130009)) else (probe_Ack.j7 k x5 false x129000 x129001 x129002 x129003 x129004 x129005 x129006 x129007 x129008 x129009 x130000 x130001 x130002 x130003 x130004 x130005 x130006 x130007 x130008 x130009))
def probe_Ack.j7 : Nat → Bool → Bool → Int → List (S52) → Int → Int → Int → Int → Int → Int → Int → Int → Int → Int → Int → Int → Int → Int → Int → Int → Bool → Bool → Option (Int × (List (S52)) × Int × Int × Int × Int × Int × Int × Int × Int)
 | 0, _, _, _, _, _, _, _, _, _, _, _, _, _, _, _, _, _, _, _, _, _, _ => none
 | k + 1, x5, x121, x129000, x129001, x129002, x129003, x129004, x129005, x129006, x129007, x129008, x129009, x130000, x130001, x130002, x130003, x130004, x130005, x130006, x130007, x130008, x130009 => if x121 = true then ((probe_Ack_1.f 2 0 x130000).bind fun t146 => (some (2, x129001, x129002, x129003, x129004, x129005, x129006, 0, x130000, x129009))) else (if x129000 = 2 then (probe_Ack.j8 k x5 x129000 x129001 x129002 x129003 x129004 x129005 x129006 x129007 x129008 x129009 x130000 x130001 x130002 x130003 x130004 x130005 x130006 x130007 x130008 x130009) else (probe_Ack.j8 k false x129000 x129001 x129002 x129003 x129004 x129005 x129006 x129007 x129008 x129009 x130000 x130001 x130002 x130003 x130004 x130005 x130006 x130007 x130008 x130009))
def probe_Ack.j8 : Nat → Bool → Int → List (S52) → Int → Int → Int → Int → Int → Int → Int → Int → Int → Int → Int → Int → Int → Int → Int → Int → Bool → Bool → Option (Int × (List (S52)) × Int × Int × Int × Int × Int × Int × Int × Int)
 | 0, _, _, _, _, _, _, _, _, _, _, _, _, _, _, _, _, _, _, _, _, _ => none
 | k + 1, x134, x129000, x129001, x129002, x129003, x129004, x129005, x129006, x129007, x129008, x129009, x130000, x130001, x130002, x130003, x130004, x130005, x130006, x130007, x130008, x130009 => if x134 = true then ((probe_Ack_1.f 3 x129007 x130000).bind fun t147 => (some (3, x129001, x129002, x129003, x129004, x129005, x129006, x129007, x130000, x129009))) else (if x129000 = 2 then ((fix_Add.f x129008 x129002).bind fun t148 => (probe_Ack.j9 k (decide (x130000 ≥ t148)) x129000 x129001 x129002 x129003 x129004 x129005 x129006 x129007 x129008 x129009 x130000 x130001 x130002 x130003 x130004 x130005 x130006 x130007 x130008 x130009)) else (probe_Ack.j9 k false x129000 x129001 x129002 x129003 x129004 x129005 x129006 x129007 x129008 x129009 x130000 x130001 x130002 x130003 x130004 x130005 x130006 x130007 x130008 x130009))
def probe_Ack.j9 : Nat → Bool → Int → List (S52) → Int → Int → Int → Int → Int → Int → Int → Int → Int → Int → Int → Int → Int → Int → Int → Int → Bool → Bool → Option (Int × (List (S52)) × Int × Int × Int × Int × Int × Int × Int × Int)
 | 0, _, _, _, _, _, _, _, _, _, _, _, _, _, _, _, _, _, _, _, _, _ => none
 | k + 1, x145, x129000, x129001, x129002, x129003, x129004, x129005, x129006, x129007, x129008, x129009, x130000, x130001, x130002, x130003, x130004, x130005, x130006, x130007, x130008, x130009 => if x145 = true then ((fix_Add.f x129007 1).bind fun t149 => ((probe_Ack_1.f 2 t149 x130000).bind fun t150 => (some (2, x129001, x129002, x129003, x129004, x129005, x129006, t149, x130000, x129009)))) else (if x129000 = 3 then ((fix_Add.f x129008 200).bind fun t151 => (if x130000 ≥ t151 then ((probe_Ack_1.f 2 2 x130000).bind fun t152 => (some (2, x129001, x129002, x129003, x129004, x129005, x129006, 2, x130000, x129009))) else (some (x129000, x129001, x129002, x129003, x129004, x129005, x129006, x129007, x129008, x129009)))) else (some (x129000, x129001, x129002, x129003, x129004, x129005, x129006, x129007, x129008, x129009)))
end
def probe_Ack.f (k : Nat) (a0_0 : Int) (l0_1 : List (S52)) (a0_2 : Int) (a0_3 : Int) (a0_4 : Int) (a0_5 : Int) (a0_6 : Int) (a0_7 : Int) (a0_8 : Int) (a0_9 : Int) (a1_0 : Int) (a1_1 : Int) (a1_2 : Int) (a1_3 : Int) (a1_4 : Int) (a1_5 : Int) (a1_6 : Int) (a1_7 : Int) (a1_8 : Bool) (a1_9 : Bool) : Option (Int × (List (S52)) × Int × Int × Int × Int × Int × Int × Int × Int) := (api_Sample_25.f l0_1).bind fun t131 => (if a1_9 = true then ((fix_Add.f a0_6 1).bind fun t134 => ((fix_Add.f a0_9 (IntKind.u64.wrap (Int.tdiv a0_9 8))).bind fun t135 => ((reno_Held.f t135).bind fun t136 => (probe_Ack.j0 k a0_0 t131 a0_2 a0_3 a0_4 a0_5 t134 a0_7 a0_8 t136 a1_0 a1_1 a1_2 a1_3 a1_4 a1_5 a1_6 a1_7 a1_8 a1_9)))) else (probe_Ack.j0 k a0_0 t131 a0_2 a0_3 a0_4 a0_5 a0_6 a0_7 a0_8 a0_9 a1_0 a1_1 a1_2 a1_3 a1_4 a1_5 a1_6 a1_7 a1_8 a1_9))
theorem probe_Ack.mono_l : ∀ k, (∀ y0 y1 y2 y3 y4 y5 y6 y7 y8 y9 y10 y11 y12 y13 y14 y15 y16 y17 y18 y19, LeO (probe_Ack.j0 k y0 y1 y2 y3 y4 y5 y6 y7 y8 y9 y10 y11 y12 y13 y14 y15 y16 y17 y18 y19) (probe_Ack.j0 (k + 1) y0 y1 y2 y3 y4 y5 y6 y7 y8 y9 y10 y11 y12 y13 y14 y15 y16 y17 y18 y19)) ∧ (∀ y0 y1 y2 y3 y4 y5 y6 y7 y8 y9 y10 y11 y12 y13 y14 y15 y16 y17 y18 y19 y20, LeO (probe_Ack.j1 k y0 y1 y2 y3 y4 y5 y6 y7 y8 y9 y10 y11 y12 y13 y14 y15 y16 y17 y18 y19 y20) (probe_Ack.j1 (k + 1) y0 y1 y2 y3 y4 y5 y6 y7 y8 y9 y10 y11 y12 y13 y14 y15 y16 y17 y18 y19 y20)) ∧ (∀ y0 y1 y2 y3 y4 y5 y6 y7 y8 y9 y10 y11 y12 y13 y14 y15 y16 y17 y18 y19, LeO (probe_Ack.j2 k y0 y1 y2 y3 y4 y5 y6 y7 y8 y9 y10 y11 y12 y13 y14 y15 y16 y17 y18 y19) (probe_Ack.j2 (k + 1) y0 y1 y2 y3 y4 y5 y6 y7 y8 y9 y10 y11 y12 y13 y14 y15 y16 y17 y18 y19)) ∧ (∀ y0 y1 y2 y3 y4 y5 y6 y7 y8 y9 y10 y11 y12 y13 y14 y15 y16 y17 y18 y19 y20 y21, LeO (probe_Ack.j3 k y0 y1 y2 y3 y4 y5 y6 y7 y8 y9 y10 y11 y12 y13 y14 y15 y16 y17 y18 y19 y20 y21) (probe_Ack.j3 (k + 1) y0 y1 y2 y3 y4 y5 y6 y7 y8 y9 y10 y11 y12 y13 y14 y15 y16 y17 y18 y19 y20 y21)) ∧ (∀ y0 y1 y2 y3 y4 y5 y6 y7 y8 y9 y10 y11 y12 y13 y14 y15 y16 y17 y18 y19 y20, LeO (probe_Ack.j4 k y0 y1 y2 y3 y4 y5 y6 y7 y8 y9 y10 y11 y12 y13 y14 y15 y16 y17 y18 y19 y20) (probe_Ack.j4 (k + 1) y0 y1 y2 y3 y4 y5 y6 y7 y8 y9 y10 y11 y12 y13 y14 y15 y16 y17 y18 y19 y20)) ∧ (∀ y0 y1 y2 y3 y4 y5 y6 y7 y8 y9 y10 y11 y12 y13 y14 y15 y16 y17 y18 y19 y20 y21 y22, LeO (probe_Ack.j5 k y0 y1 y2 y3 y4 y5 y6 y7 y8 y9 y10 y11 y12 y13 y14 y15 y16 y17 y18 y19 y20 y21 y22) (probe_Ack.j5 (k + 1) y0 y1 y2 y3 y4 y5 y6 y7 y8 y9 y10 y11 y12 y13 y14 y15 y16 y17 y18 y19 y20 y21 y22)) ∧ (∀ y0 y1 y2 y3 y4 y5 y6 y7 y8 y9 y10 y11 y12 y13 y14 y15 y16 y17 y18 y19 y20 y21, LeO (probe_Ack.j6 k y0 y1 y2 y3 y4 y5 y6 y7 y8 y9 y10 y11 y12 y13 y14 y15 y16 y17 y18 y19 y20 y21) (probe_Ack.j6 (k + 1) y0 y1 y2 y3 y4 y5 y6 y7 y8 y9 y10 y11 y12 y13 y14 y15 y16 y17 y18 y19 y20 y21)) ∧ (∀ y0 y1 y2 y3 y4 y5 y6 y7 y8 y9 y10 y11 y12 y13 y14 y15 y16 y17 y18 y19 y20 y21, LeO (probe_Ack.j7 k y0 y1 y2 y3 y4 y5 y6 y7 y8 y9 y10 y11 y12 y13 y14 y15 y16 y17 y18 y19 y20 y21) (probe_Ack.j7 (k + 1) y0 y1 y2 y3 y4 y5 y6 y7 y8 y9 y10 y11 y12 y13 y14 y15 y16 y17 y18 y19 y20 y21)) ∧ (∀ y0 y1 y2 y3 y4 y5 y6 y7 y8 y9 y10 y11 y12 y13 y14 y15 y16 y17 y18 y19 y20, LeO (probe_Ack.j8 k y0 y1 y2 y3 y4 y5 y6 y7 y8 y9 y10 y11 y12 y13 y14 y15 y16 y17 y18 y19 y20) (probe_Ack.j8 (k + 1) y0 y1 y2 y3 y4 y5 y6 y7 y8 y9 y10 y11 y12 y13 y14 y15 y16 y17 y18 y19 y20)) ∧ (∀ y0 y1 y2 y3 y4 y5 y6 y7 y8 y9 y10 y11 y12 y13 y14 y15 y16 y17 y18 y19 y20, LeO (probe_Ack.j9 k y0 y1 y2 y3 y4 y5 y6 y7 y8 y9 y10 y11 y12 y13 y14 y15 y16 y17 y18 y19 y20) (probe_Ack.j9 (k + 1) y0 y1 y2 y3 y4 y5 y6 y7 y8 y9 y10 y11 y12 y13 y14 y15 y16 y17 y18 y19 y20))
 | 0 => ⟨fun _ _ _ _ _ _ _ _ _ _ _ _ _ _ _ _ _ _ _ _ r h => by simp [probe_Ack.j0] at h, fun _ _ _ _ _ _ _ _ _ _ _ _ _ _ _ _ _ _ _ _ _ r h => by simp [probe_Ack.j1] at h, fun _ _ _ _ _ _ _ _ _ _ _ _ _ _ _ _ _ _ _ _ r h => by simp [probe_Ack.j2] at h, fun _ _ _ _ _ _ _ _ _ _ _ _ _ _ _ _ _ _ _ _ _ _ r h => by simp [probe_Ack.j3] at h, fun _ _ _ _ _ _ _ _ _ _ _ _ _ _ _ _ _ _ _ _ _ r h => by simp [probe_Ack.j4] at h, fun _ _ _ _ _ _ _ _ _ _ _ _ _ _ _ _ _ _ _ _ _ _ _ r h => by simp [probe_Ack.j5] at h, fun _ _ _ _ _ _ _ _ _ _ _ _ _ _ _ _ _ _ _ _ _ _ r h => by simp [probe_Ack.j6] at h, fun _ _ _ _ _ _ _ _ _ _ _ _ _ _ _ _ _ _ _ _ _ _ r h => by simp [probe_Ack.j7] at h, fun _ _ _ _ _ _ _ _ _ _ _ _ _ _ _ _ _ _ _ _ _ r h => by simp [probe_Ack.j8] at h, fun _ _ _ _ _ _ _ _ _ _ _ _ _ _ _ _ _ _ _ _ _ r h => by simp [probe_Ack.j9] at h⟩
 | k + 1 => by
  obtain ⟨ih0, ih1, ih2, ih3, ih4, ih5, ih6, ih7, ih8, ih9⟩ := probe_Ack.mono_l k
  refine ⟨?_, ?_, ?_, ?_, ?_, ?_, ?_, ?_, ?_, ?_⟩
  ·intro y0 y1 y2 y3 y4 y5 y6 y7 y8 y9 y10 y11 y12 y13 y14 y15 y16 y17 y18 y19
   unfold probe_Ack.j0
   repeat' first
   | (with_reducible exact ih0 _ _ _ _ _ _ _ _ _ _ _ _ _ _ _ _ _ _ _ _)
   | (with_reducible exact ih1 _ _ _ _ _ _ _ _ _ _ _ _ _ _ _ _ _ _ _ _ _)
   | (with_reducible exact ih2 _ _ _ _ _ _ _ _ _ _ _ _ _ _ _ _ _ _ _ _)
   | (with_reducible exact ih3 _ _ _ _ _ _ _ _ _ _ _ _ _ _ _ _ _ _ _ _ _ _)
   | (with_reducible exact ih4 _ _ _ _ _ _ _ _ _ _ _ _ _ _ _ _ _ _ _ _ _)
   | (with_reducible exact ih5 _ _ _ _ _ _ _ _ _ _ _ _ _ _ _ _ _ _ _ _ _ _ _)
   | (with_reducible exact ih6 _ _ _ _ _ _ _ _ _ _ _ _ _ _ _ _ _ _ _ _ _ _)
   | (with_reducible exact ih7 _ _ _ _ _ _ _ _ _ _ _ _ _ _ _ _ _ _ _ _ _ _)
   | (with_reducible exact ih8 _ _ _ _ _ _ _ _ _ _ _ _ _ _ _ _ _ _ _ _ _)
   | (with_reducible exact ih9 _ _ _ _ _ _ _ _ _ _ _ _ _ _ _ _ _ _ _ _ _)
   | (with_reducible exact filt_PushMax.mono _ _ _ _ _)
   | (with_reducible exact LeO.refl _)
   | (with_reducible exact LeO.none _)
   | (with_reducible refine LeO.ite ?_ ?_)
   | (with_reducible refine LeO.bind ?_ (fun _ => ?_))
   | exact filt_PushMax.mono _ _ _ _ _
   | exact LeO.none _
   | refine LeO.ite ?_ ?_
   | refine LeO.bind ?_ (fun _ => ?_)
  ·intro y0 y1 y2 y3 y4 y5 y6 y7 y8 y9 y10 y11 y12 y13 y14 y15 y16 y17 y18 y19 y20
   unfold probe_Ack.j1
   repeat' first
   | (with_reducible exact ih0 _ _ _ _ _ _ _ _ _ _ _ _ _ _ _ _ _ _ _ _)
   | (with_reducible exact ih1 _ _ _ _ _ _ _ _ _ _ _ _ _ _ _ _ _ _ _ _ _)
   | (with_reducible exact ih2 _ _ _ _ _ _ _ _ _ _ _ _ _ _ _ _ _ _ _ _)
   | (with_reducible exact ih3 _ _ _ _ _ _ _ _ _ _ _ _ _ _ _ _ _ _ _ _ _ _)
   | (with_reducible exact ih4 _ _ _ _ _ _ _ _ _ _ _ _ _ _ _ _ _ _ _ _ _)
   | (with_reducible exact ih5 _ _ _ _ _ _ _ _ _ _ _ _ _ _ _ _ _ _ _ _ _ _ _)
   | (with_reducible exact ih6 _ _ _ _ _ _ _ _ _ _ _ _ _ _ _ _ _ _ _ _ _ _)
   | (with_reducible exact ih7 _ _ _ _ _ _ _ _ _ _ _ _ _ _ _ _ _ _ _ _ _ _)
   | (with_reducible exact ih8 _ _ _ _ _ _ _ _ _ _ _ _ _ _ _ _ _ _ _ _ _)
   | (with_reducible exact ih9 _ _ _ _ _ _ _ _ _ _ _ _ _ _ _ _ _ _ _ _ _)
   | (with_reducible exact filt_PushMax.mono _ _ _ _ _)
   | (with_reducible exact LeO.refl _)
   | (with_reducible exact LeO.none _)
   | (with_reducible refine LeO.ite ?_ ?_)
   | (with_reducible refine LeO.bind ?_ (fun _ => ?_))
   | exact filt_PushMax.mono _ _ _ _ _
   | exact LeO.none _
   | refine LeO.ite ?_ ?_
   | refine LeO.bind ?_ (fun _ => ?_)
  ·intro y0 y1 y2 y3 y4 y5 y6 y7 y8 y9 y10 y11 y12 y13 y14 y15 y16 y17 y18 y19
   unfold probe_Ack.j2
   repeat' first
   | (with_reducible exact ih0 _ _ _ _ _ _ _ _ _ _ _ _ _ _ _ _ _ _ _ _)
   | (with_reducible exact ih1 _ _ _ _ _ _ _ _ _ _ _ _ _ _ _ _ _ _ _ _ _)
   | (with_reducible exact ih2 _ _ _ _ _ _ _ _ _ _ _ _ _ _ _ _ _ _ _ _)
   | (with_reducible exact ih3 _ _ _ _ _ _ _ _ _ _ _ _ _ _ _ _ _ _ _ _ _ _)
   | (with_reducible exact ih4 _ _ _ _ _ _ _ _ _ _ _ _ _ _ _ _ _ _ _ _ _)
   | (with_reducible exact ih5 _ _ _ _ _ _ _ _ _ _ _ _ _ _ _ _ _ _ _ _ _ _ _)
   | (with_reducible exact ih6 _ _ _ _ _ _ _ _ _ _ _ _ _ _ _ _ _ _ _ _ _ _)
   | (with_reducible exact ih7 _ _ _ _ _ _ _ _ _ _ _ _ _ _ _ _ _ _ _ _ _ _)
   | (with_reducible exact ih8 _ _ _ _ _ _ _ _ _ _ _ _ _ _ _ _ _ _ _ _ _)
   | (with_reducible exact ih9 _ _ _ _ _ _ _ _ _ _ _ _ _ _ _ _ _ _ _ _ _)
   | (with_reducible exact filt_PushMax.mono _ _ _ _ _)
   | (with_reducible exact LeO.refl _)
   | (with_reducible exact LeO.none _)
   | (with_reducible refine LeO.ite ?_ ?_)
   | (with_reducible refine LeO.bind ?_ (fun _ => ?_))
   | exact filt_PushMax.mono _ _ _ _ _
   | exact LeO.none _
   | refine LeO.ite ?_ ?_
   | refine LeO.bind ?_ (fun _ => ?_)
  ·intro y0 y1 y2 y3 y4 y5 y6 y7 y8 y9 y10 y11 y12 y13 y14 y15 y16 y17 y18 y19 y20 y21
   unfold probe_Ack.j3
   repeat' first
   | (with_reducible exact ih0 _ _ _ _ _ _ _ _ _ _ _ _ _ _ _ _ _ _ _ _)
   | (with_reducible exact ih1 _ _ _ _ _ _ _ _ _ _ _ _ _ _ _ _ _ _ _ _ _)
   | (with_reducible exact ih2 _ _ _ _ _ _ _ _ _ _ _ _ _ _ _ _ _ _ _ _)
   | (with_reducible exact ih3 _ _ _ _ _ _ _ _ _ _ _ _ _ _ _ _ _ _ _ _ _ _)
   | (with_reducible exact ih4 _ _ _ _ _ _ _ _ _ _ _ _ _ _ _ _ _ _ _ _ _)
   | (with_reducible exact ih5 _ _ _ _ _ _ _ _ _ _ _ _ _ _ _ _ _ _ _ _ _ _ _)
   | (with_reducible exact ih6 _ _ _ _ _ _ _ _ _ _ _ _ _ _ _ _ _ _ _ _ _ _)
   | (with_reducible exact ih7 _ _ _ _ _ _ _ _ _ _ _ _ _ _ _ _ _ _ _ _ _ _)
   | (with_reducible exact ih8 _ _ _ _ _ _ _ _ _ _ _ _ _ _ _ _ _ _ _ _ _)
   | (with_reducible exact ih9 _ _ _ _ _ _ _ _ _ _ _ _ _ _ _ _ _ _ _ _ _)
   | (with_reducible exact filt_PushMax.mono _ _ _ _ _)
   | (with_reducible exact LeO.refl _)
   | (with_reducible exact LeO.none _)
   | (with_reducible refine LeO.ite ?_ ?_)
   | (with_reducible refine LeO.bind ?_ (fun _ => ?_))
   | exact filt_PushMax.mono _ _ _ _ _
   | exact LeO.none _
   | refine LeO.ite ?_ ?_
   | refine LeO.bind ?_ (fun _ => ?_)
  ·intro y0 y1 y2 y3 y4 y5 y6 y7 y8 y9 y10 y11 y12 y13 y14 y15 y16 y17 y18 y19 y20
   unfold probe_Ack.j4
   repeat' first
   | (with_reducible exact ih0 _ _ _ _ _ _ _ _ _ _ _ _ _ _ _ _ _ _ _ _)
   | (with_reducible exact ih1 _ _ _ _ _ _ _ _ _ _ _ _ _ _ _ _ _ _ _ _ _)
   | (with_reducible exact ih2 _ _ _ _ _ _ _ _ _ _ _ _ _ _ _ _ _ _ _ _)
   | (with_reducible exact ih3 _ _ _ _ _ _ _ _ _ _ _ _ _ _ _ _ _ _ _ _ _ _)
   | (with_reducible exact ih4 _ _ _ _ _ _ _ _ _ _ _ _ _ _ _ _ _ _ _ _ _)
   | (with_reducible exact ih5 _ _ _ _ _ _ _ _ _ _ _ _ _ _ _ _ _ _ _ _ _ _ _)
   | (with_reducible exact ih6 _ _ _ _ _ _ _ _ _ _ _ _ _ _ _ _ _ _ _ _ _ _)
   | (with_reducible exact ih7 _ _ _ _ _ _ _ _ _ _ _ _ _ _ _ _ _ _ _ _ _ _)
   | (with_reducible exact ih8 _ _ _ _ _ _ _ _ _ _ _ _ _ _ _ _ _ _ _ _ _)
   | (with_reducible exact ih9 _ _ _ _ _ _ _ _ _ _ _ _ _ _ _ _ _ _ _ _ _)
   | (with_reducible exact filt_PushMax.mono _ _ _ _ _)
   | (with_reducible exact LeO.refl _)
   | (with_reducible exact LeO.none _)
   | (with_reducible refine LeO.ite ?_ ?_)
   | (with_reducible refine LeO.bind ?_ (fun _ => ?_))
   | exact filt_PushMax.mono _ _ _ _ _
   | exact LeO.none _
   | refine LeO.ite ?_ ?_
   | refine LeO.bind ?_ (fun _ => ?_)
  ·intro y0 y1 y2 y3 y4 y5 y6 y7 y8 y9 y10 y11 y12 y13 y14 y15 y16 y17 y18 y19 y20 y21 y22
   unfold probe_Ack.j5
   repeat' first
   | (with_reducible exact ih0 _ _ _ _ _ _ _ _ _ _ _ _ _ _ _ _ _ _ _ _)
   | (with_reducible exact ih1 _ _ _ _ _ _ _ _ _ _ _ _ _ _ _ _ _ _ _ _ _)
   | (with_reducible exact ih2 _ _ _ _ _ _ _ _ _ _ _ _ _ _ _ _ _ _ _ _)
   | (with_reducible exact ih3 _ _ _ _ _ _ _ _ _ _ _ _ _ _ _ _ _ _ _ _ _ _)
   | (with_reducible exact ih4 _ _ _ _ _ _ _ _ _ _ _ _ _ _ _ _ _ _ _ _ _)
   | (with_reducible exact ih5 _ _ _ _ _ _ _ _ _ _ _ _ _ _ _ _ _ _ _ _ _ _ _)
   | (with_reducible exact ih6 _ _ _ _ _ _ _ _ _ _ _ _ _ _ _ _ _ _ _ _ _ _)
   | (with_reducible exact ih7 _ _ _ _ _ _ _ _ _ _ _ _ _ _ _ _ _ _ _ _ _ _)
   | (with_reducible exact ih8 _ _ _ _ _ _ _ _ _ _ _ _ _ _ _ _ _ _ _ _ _)
   | (with_reducible exact ih9 _ _ _ _ _ _ _ _ _ _ _ _ _ _ _ _ _ _ _ _ _)
   | (with_reducible exact filt_PushMax.mono _ _ _ _ _)
   | (with_reducible exact LeO.refl _)
   | (with_reducible exact LeO.none _)
   | (with_reducible refine LeO.ite ?_ ?_)
   | (with_reducible refine LeO.bind ?_ (fun _ => ?_))
   | exact filt_PushMax.mono _ _ _ _ _
   | exact LeO.none _
   | refine LeO.ite ?_ ?_
   | refine LeO.bind ?_ (fun _ => ?_)
  ·intro y0 y1 y2 y3 y4 y5 y6 y7 y8 y9 y10 y11 y12 y13 y14 y15 y16 y17 y18 y19 y20 y21
   unfold probe_Ack.j6
   repeat' first
   | (with_reducible exact ih0 _ _ _ _ _ _ _ _ _ _ _ _ _ _ _ _ _ _ _ _)
   | (with_reducible exact ih1 _ _ _ _ _ _ _ _ _ _ _ _ _ _ _ _ _ _ _ _ _)
   | (with_reducible exact ih2 _ _ _ _ _ _ _ _ _ _ _ _ _ _ _ _ _ _ _ _)
   | (with_reducible exact ih3 _ _ _ _ _ _ _ _ _ _ _ _ _ _ _ _ _ _ _ _ _ _)
   | (with_reducible exact ih4 _ _ _ _ _ _ _ _ _ _ _ _ _ _ _ _ _ _ _ _ _)
   | (with_reducible exact ih5 _ _ _ _ _ _ _ _ _ _ _ _ _ _ _ _ _ _ _ _ _ _ _)
   | (with_reducible exact ih6 _ _ _ _ _ _ _ _ _ _ _ _ _ _ _ _ _ _ _ _ _ _)
   | (with_reducible exact ih7 _ _ _ _ _ _ _ _ _ _ _ _ _ _ _ _ _ _ _ _ _ _)
   | (with_reducible exact ih8 _ _ _ _ _ _ _ _ _ _ _ _ _ _ _ _ _ _ _ _ _)
   | (with_reducible exact ih9 _ _ _ _ _ _ _ _ _ _ _ _ _ _ _ _ _ _ _ _ _)
   | (with_reducible exact filt_PushMax.mono _ _ _ _ _)
   | (with_reducible exact LeO.refl _)
   | (with_reducible exact LeO.none _)
   | (with_reducible refine LeO.ite ?_ ?_)
   | (with_reducible refine LeO.bind ?_ (fun _ => ?_))
   | exact filt_PushMax.mono _ _ _ _ _
   | exact LeO.none _
   | refine LeO.ite ?_ ?_
   | refine LeO.bind ?_ (fun _ => ?_)
  ·intro y0 y1 y2 y3 y4 y5 y6 y7 y8 y9 y10 y11 y12 y13 y14 y15 y16 y17 y18 y19 y20 y21
   unfold probe_Ack.j7
   repeat' first
   | (with_reducible exact ih0 _ _ _ _ _ _ _ _ _ _ _ _ _ _ _ _ _ _ _ _)
   | (with_reducible exact ih1 _ _ _ _ _ _ _ _ _ _ _ _ _ _ _ _ _ _ _ _ _)
   | (with_reducible exact ih2 _ _ _ _ _ _ _ _ _ _ _ _ _ _ _ _ _ _ _ _)
   | (with_reducible exact ih3 _ _ _ _ _ _ _ _ _ _ _ _ _ _ _ _ _ _ _ _ _ _)
   | (with_reducible exact ih4 _ _ _ _ _ _ _ _ _ _ _ _ _ _ _ _ _ _ _ _ _)
   | (with_reducible exact ih5 _ _ _ _ _ _ _ _ _ _ _ _ _ _ _ _ _ _ _ _ _ _ _)
   | (with_reducible exact ih6 _ _ _ _ _ _ _ _ _ _ _ _ _ _ _ _ _ _ _ _ _ _)
   | (with_reducible exact ih7 _ _ _ _ _ _ _ _ _ _ _ _ _ _ _ _ _ _ _ _ _ _)
   | (with_reducible exact ih8 _ _ _ _ _ _ _ _ _ _ _ _ _ _ _ _ _ _ _ _ _)
   | (with_reducible exact ih9 _ _ _ _ _ _ _ _ _ _ _ _ _ _ _ _ _ _ _ _ _)
   | (with_reducible exact filt_PushMax.mono _ _ _ _ _)
   | (with_reducible exact LeO.refl _)
   | (with_reducible exact LeO.none _)
   | (with_reducible refine LeO.ite ?_ ?_)
   | (with_reducible refine LeO.bind ?_ (fun _ => ?_))
   | exact filt_PushMax.mono _ _ _ _ _
   | exact LeO.none _
   | refine LeO.ite ?_ ?_
   | refine LeO.bind ?_ (fun _ => ?_)
  ·intro y0 y1 y2 y3 y4 y5 y6 y7 y8 y9 y10 y11 y12 y13 y14 y15 y16 y17 y18 y19 y20
   unfold probe_Ack.j8
   repeat' first
   | (with_reducible exact ih0 _ _ _ _ _ _ _ _ _ _ _ _ _ _ _ _ _ _ _ _)
   | (with_reducible exact ih1 _ _ _ _ _ _ _ _ _ _ _ _ _ _ _ _ _ _ _ _ _)
   | (with_reducible exact ih2 _ _ _ _ _ _ _ _ _ _ _ _ _ _ _ _ _ _ _ _)
   | (with_reducible exact ih3 _ _ _ _ _ _ _ _ _ _ _ _ _ _ _ _ _ _ _ _ _ _)
   | (with_reducible exact ih4 _ _ _ _ _ _ _ _ _ _ _ _ _ _ _ _ _ _ _ _ _)
   | (with_reducible exact ih5 _ _ _ _ _ _ _ _ _ _ _ _ _ _ _ _ _ _ _ _ _ _ _)
   | (with_reducible exact ih6 _ _ _ _ _ _ _ _ _ _ _ _ _ _ _ _ _ _ _ _ _ _)
   | (with_reducible exact ih7 _ _ _ _ _ _ _ _ _ _ _ _ _ _ _ _ _ _ _ _ _ _)
   | (with_reducible exact ih8 _ _ _ _ _ _ _ _ _ _ _ _ _ _ _ _ _ _ _ _ _)
   | (with_reducible exact ih9 _ _ _ _ _ _ _ _ _ _ _ _ _ _ _ _ _ _ _ _ _)
   | (with_reducible exact filt_PushMax.mono _ _ _ _ _)
   | (with_reducible exact LeO.refl _)
   | (with_reducible exact LeO.none _)
   | (with_reducible refine LeO.ite ?_ ?_)
   | (with_reducible refine LeO.bind ?_ (fun _ => ?_))
   | exact filt_PushMax.mono _ _ _ _ _
   | exact LeO.none _
   | refine LeO.ite ?_ ?_
   | refine LeO.bind ?_ (fun _ => ?_)
  ·intro y0 y1 y2 y3 y4 y5 y6 y7 y8 y9 y10 y11 y12 y13 y14 y15 y16 y17 y18 y19 y20
   unfold probe_Ack.j9
   repeat' first
   | (with_reducible exact ih0 _ _ _ _ _ _ _ _ _ _ _ _ _ _ _ _ _ _ _ _)
   | (with_reducible exact ih1 _ _ _ _ _ _ _ _ _ _ _ _ _ _ _ _ _ _ _ _ _)
   | (with_reducible exact ih2 _ _ _ _ _ _ _ _ _ _ _ _ _ _ _ _ _ _ _ _)
   | (with_reducible exact ih3 _ _ _ _ _ _ _ _ _ _ _ _ _ _ _ _ _ _ _ _ _ _)
   | (with_reducible exact ih4 _ _ _ _ _ _ _ _ _ _ _ _ _ _ _ _ _ _ _ _ _)
   | (with_reducible exact ih5 _ _ _ _ _ _ _ _ _ _ _ _ _ _ _ _ _ _ _ _ _ _ _)
   | (with_reducible exact ih6 _ _ _ _ _ _ _ _ _ _ _ _ _ _ _ _ _ _ _ _ _ _)
   | (with_reducible exact ih7 _ _ _ _ _ _ _ _ _ _ _ _ _ _ _ _ _ _ _ _ _ _)
   | (with_reducible exact ih8 _ _ _ _ _ _ _ _ _ _ _ _ _ _ _ _ _ _ _ _ _)
   | (with_reducible exact ih9 _ _ _ _ _ _ _ _ _ _ _ _ _ _ _ _ _ _ _ _ _)
   | (with_reducible exact filt_PushMax.mono _ _ _ _ _)
   | (with_reducible exact LeO.refl _)
   | (with_reducible exact LeO.none _)
   | (with_reducible refine LeO.ite ?_ ?_)
   | (with_reducible refine LeO.bind ?_ (fun _ => ?_))
   | exact filt_PushMax.mono _ _ _ _ _
   | exact LeO.none _
   | refine LeO.ite ?_ ?_
   | refine LeO.bind ?_ (fun _ => ?_)
theorem probe_Ack.mono : ∀ a0 a1 a2 a3 a4 a5 a6 a7 a8 a9 a10 a11 a12 a13 a14 a15 a16 a17 a18 a19 k, LeO (probe_Ack.f k a0 a1 a2 a3 a4 a5 a6 a7 a8 a9 a10 a11 a12 a13 a14 a15 a16 a17 a18 a19) (probe_Ack.f (k + 1) a0 a1 a2 a3 a4 a5 a6 a7 a8 a9 a10 a11 a12 a13 a14 a15 a16 a17 a18 a19) := by
 intro a0 a1 a2 a3 a4 a5 a6 a7 a8 a9 a10 a11 a12 a13 a14 a15 a16 a17 a18 a19 k
 obtain ⟨ih0, ih1, ih2, ih3, ih4, ih5, ih6, ih7, ih8, ih9⟩ := probe_Ack.mono_l k
 unfold probe_Ack.f
 repeat' first
   | (with_reducible exact ih0 _ _ _ _ _ _ _ _ _ _ _ _ _ _ _ _ _ _ _ _)
   | (with_reducible exact ih1 _ _ _ _ _ _ _ _ _ _ _ _ _ _ _ _ _ _ _ _ _)
   | (with_reducible exact ih2 _ _ _ _ _ _ _ _ _ _ _ _ _ _ _ _ _ _ _ _)
   | (with_reducible exact ih3 _ _ _ _ _ _ _ _ _ _ _ _ _ _ _ _ _ _ _ _ _ _)
   | (with_reducible exact ih4 _ _ _ _ _ _ _ _ _ _ _ _ _ _ _ _ _ _ _ _ _)
   | (with_reducible exact ih5 _ _ _ _ _ _ _ _ _ _ _ _ _ _ _ _ _ _ _ _ _ _ _)
   | (with_reducible exact ih6 _ _ _ _ _ _ _ _ _ _ _ _ _ _ _ _ _ _ _ _ _ _)
   | (with_reducible exact ih7 _ _ _ _ _ _ _ _ _ _ _ _ _ _ _ _ _ _ _ _ _ _)
   | (with_reducible exact ih8 _ _ _ _ _ _ _ _ _ _ _ _ _ _ _ _ _ _ _ _ _)
   | (with_reducible exact ih9 _ _ _ _ _ _ _ _ _ _ _ _ _ _ _ _ _ _ _ _ _)
   | (with_reducible exact filt_PushMax.mono _ _ _ _ _)
   | (with_reducible exact LeO.refl _)
   | (with_reducible exact LeO.none _)
   | (with_reducible refine LeO.ite ?_ ?_)
   | (with_reducible refine LeO.bind ?_ (fun _ => ?_))
   | exact filt_PushMax.mono _ _ _ _ _
   | exact LeO.none _
   | refine LeO.ite ?_ ?_
   | refine LeO.bind ?_ (fun _ => ?_)
def probe_Ack.T5 : Bool × List (List Nat × List Nat) := (true, [([], []), ([0], [0]), ([1], [1]), ([2], [2]), ([3], [3]), ([4, 3], [3, 4]), ([3], [3]), ([6, 3], [3, 6]), ([7, 3, 3], [3, 7]), ([5, 8, 3], [3, 5, 8]), ([3, 9], [3, 9])])
def probe_Ack.B5 : List Nat := [0, 1, 3, 7, 15, 31, 15, 79, 207, 511, 1023]
theorem probe_Ack.tab5 : rtab .any (opsOf Try.f11 5) = probe_Ack.T5 := by kernel_rfl
theorem probe_Ack.bits5 : waitsOk probe_Ack.T5.2 probe_Ack.B5 = true := by kernel_rfl
def probe_Ack.T9 : Bool × List (List Nat × List Nat) := (true, [([], []), ([0], [0]), ([], []), ([2], [2]), ([0, 1], []), ([4, 1, 0, 1], [1, 4]), ([0, 1, 2, 3, 4, 5], []), ([6, 3, 5, 0, 1, 2, 3, 4, 5], [3, 6])])
def probe_Ack.B9 : List Nat := [0, 1, 0, 4, 3, 19, 63, 127]
theorem probe_Ack.tab9 : rtab .any (opsOf Try.f11 9) = probe_Ack.T9 := by kernel_rfl
theorem probe_Ack.bits9 : waitsOk probe_Ack.T9.2 probe_Ack.B9 = true := by kernel_rfl
def probe_Ack.T18 : Bool × List (List Nat × List Nat) := (true, [([], []), ([0], [0]), ([1], [1]), ([2], [2]), ([3], [3]), ([4, 3], [3, 4]), ([3], [3]), ([6, 3, 3], [3, 6]), ([5, 7, 3], [3, 5, 7]), ([3, 8], [3, 8]), ([9, 7], [9])])
def probe_Ack.B18 : List Nat := [0, 1, 3, 7, 15, 31, 15, 79, 255, 511, 1023]
theorem probe_Ack.tab18 : rtab .any (opsOf Try.f11 18) = probe_Ack.T18 := by kernel_rfl
theorem probe_Ack.bits18 : waitsOk probe_Ack.T18.2 probe_Ack.B18 = true := by kernel_rfl
def probe_Ack.T22 : Bool × List (List Nat × List Nat) := (true, [([], []), ([0], [0]), ([1], [1]), ([2], [2]), ([3], [3]), ([4, 3], [3, 4]), ([3], [3]), ([6, 3], [3, 6]), ([3], [3]), ([8, 3], [3, 8]), ([7, 9, 3, 3], [3, 7, 9]), ([5, 10, 3], [3, 5, 10]), ([3, 11], [3, 11]), ([12, 10], [12])])
def probe_Ack.B22 : List Nat := [0, 1, 3, 7, 15, 31, 15, 79, 15, 271, 975, 2047, 4095, 8191]
theorem probe_Ack.tab22 : rtab .any (opsOf Try.f11 22) = probe_Ack.T22 := by kernel_rfl
theorem probe_Ack.bits22 : waitsOk probe_Ack.T22.2 probe_Ack.B22 = true := by kernel_rfl
def probe_Ack.T24 : Bool × List (List Nat × List Nat) := (true, [([], []), ([0], [0]), ([1], [1]), ([2], [2]), ([3], [3]), ([4, 3], [3, 4]), ([3], [3]), ([6, 3], [3, 6]), ([7, 3, 3], [3, 7]), ([5, 8, 3], [3, 5, 8]), ([3, 9], [3, 9]), ([10, 8], [10])])
def probe_Ack.B24 : List Nat := [0, 1, 3, 7, 15, 31, 15, 79, 207, 511, 1023, 2047]
theorem probe_Ack.tab24 : rtab .any (opsOf Try.f11 24) = probe_Ack.T24 := by kernel_rfl
theorem probe_Ack.bits24 : waitsOk probe_Ack.T24.2 probe_Ack.B24 = true := by kernel_rfl
set_option maxHeartbeats 8000000 in
set_option maxRecDepth 100000 in
theorem probe_Ack.rest7 (k : Nat) (a0_0 : Int) (A0_1 : Option Addr) (c0_1 : Nat) (l0_1 : List S52) (a0_2 a0_3 a0_4 a0_5 a0_6 a0_7 a0_8 a0_9 a1_0 a1_1 a1_2 a1_3 a1_4 a1_5 a1_6 a1_7 : Int) (a1_8 a1_9 : Bool) (r1 : Int) (r2 : List S52) (r3 r4 r5 r6 r7 r8 r9 r10 : Int) (w : World) (hu26 :  Try.prog.underlying 26 = some (TypeDesc.struct #[{ name := "State", type := 3, offset := 0, embedded := false, tag := "", pkgPath := "", byteOffset := 0 }, { name := "Rates", type := 23, offset := 1, embedded := false, tag := "", pkgPath := "", byteOffset := 8 }, { name := "Min", type := 24, offset := 2, embedded := false, tag := "", pkgPath := "", byteOffset := 32 }, { name := "MinAt", type := 24, offset := 3, embedded := false, tag := "", pkgPath := "", byteOffset := 40 }, { name := "Full", type := 24, offset := 4, embedded := false, tag := "", pkgPath := "", byteOffset := 48 }, { name := "Still", type := 24, offset := 5, embedded := false, tag := "", pkgPath := "", byteOffset := 56 }, { name := "Rounds", type := 24, offset := 6, embedded := false, tag := "", pkgPath := "", byteOffset := 64 }, { name := "Phase", type := 24, offset := 7, embedded := false, tag := "", pkgPath := "", byteOffset := 72 }, { name := "Since", type := 24, offset := 8, embedded := false, tag := "", pkgPath := "", byteOffset := 80 }, { name := "High", type := 24, offset := 9, embedded := false, tag := "", pkgPath := "", byteOffset := 88 }])) (hu28 :  Try.prog.underlying 28 = some (TypeDesc.struct #[{ name := "Now", type := 24, offset := 0, embedded := false, tag := "", pkgPath := "", byteOffset := 0 }, { name := "Bytes", type := 24, offset := 1, embedded := false, tag := "", pkgPath := "", byteOffset := 8 }, { name := "At", type := 24, offset := 2, embedded := false, tag := "", pkgPath := "", byteOffset := 16 }, { name := "Number", type := 24, offset := 3, embedded := false, tag := "", pkgPath := "", byteOffset := 24 }, { name := "Next", type := 24, offset := 4, embedded := false, tag := "", pkgPath := "", byteOffset := 32 }, { name := "Took", type := 24, offset := 5, embedded := false, tag := "", pkgPath := "", byteOffset := 40 }, { name := "Flight", type := 24, offset := 6, embedded := false, tag := "", pkgPath := "", byteOffset := 48 }, { name := "Rate", type := 24, offset := 7, embedded := false, tag := "", pkgPath := "", byteOffset := 56 }, { name := "Limited", type := 4, offset := 8, embedded := false, tag := "", pkgPath := "", byteOffset := 64 }, { name := "Round", type := 4, offset := 9, embedded := false, tag := "", pkgPath := "", byteOffset := 65 }])) (hu52 :  Try.prog.underlying 52 = some (TypeDesc.struct #[{ name := "At", type := 24, offset := 0, embedded := false, tag := "", pkgPath := "", byteOffset := 0 }, { name := "Value", type := 24, offset := 1, embedded := false, tag := "", pkgPath := "", byteOffset := 8 }])) (hmf :  ∀ (fn : Fn) (first cap : Array Value) (w : World), Sem.run Try.prog (Instr.makeFunc fn first cap) w = Result.ok (Value.func fn first cap) w) (gb128 : Nat) (GE128 : Aside0 (w.heap.size ≤ gb128)) (gb129 : Nat) (GE129 : Aside0 (w.heap.size ≤ gb129)) (NB128_129 : Aside0 (gb128 ≠ gb129)) (NB129_128 : Aside0 (gb129 ≠ gb128)) (gb130 : Nat) (GE130 : Aside0 (w.heap.size ≤ gb130)) (NB128_130 : Aside0 (gb128 ≠ gb130)) (NB130_128 : Aside0 (gb130 ≠ gb128)) (NB129_130 : Aside0 (gb129 ≠ gb130)) (NB130_129 : Aside0 (gb130 ≠ gb129)) (x129006_3 x129009_3 : Int) (kj3 : Nat) (HJ3 : Aside0 (kj3 + 1 ≤ k)) (kj22 : Nat) (HJ22 : Aside0 (kj22 + 1 ≤ kj3)) (x129001_27 : List S52) (kj27 : Nat) (HJ27 : Aside0 (kj27 + 1 ≤ kj22)) (t141 : Int) (kj39 : Nat) (HJ39 : Aside0 (kj39 + 1 ≤ kj27)) (x129002_47 x129003_47 : Int) (kj47 : Nat) (HJ47 : Aside0 (kj47 + 1 ≤ kj39)) (t142 : Int) (Ao58 : Option Addr) (co58 : Nat) (kj53 : Nat) (HJ53 : Aside0 (kj53 + 1 ≤ kj47)) (kj92 : Nat) (HJ92 : Aside0 (kj92 + 1 ≤ kj53)) (wc : World) (u8 u9 u10 u11 u12 u13 u14 u15 u16 u17 u18 u19 u20 u21 u22 u23 u24 u25 u26 u27 u28 u29 u30 u31 u32 u33 u34 u35 u36 u37 u38 u39 u40 u41 u42 u43 u44 u45 u46 u47 u48 u49 u50 u51 u52 u53 u54 u55 u56 u57 u58 u59 u60 u61 u62 u63 u64 u65 u66 u67 u68 u69 u71 u72 u73 u74 u75 u76 u77 u78 u79 u80 u81 u82 u83 u84 u85 u86 u87 u88 u89 u90 u91 u92 u93 u94 u95 u96 u97 u98 u99 u101 u102 u103 u104 u105 u106 u107 u108 u109 u110 u111 u112 u113 u114 u115 u116 u117 u118 u119 u120 u122 u123 u124 u125 u126 u127 u128 u129 u130 u131 u132 u133 u135 u136 u137 u138 u139 u140 u141 u142 u143 u144 u146 u147 u148 u149 u150 u151 u152 u153 u154 u155 u156 u157 u158 u159 u160 u161 u162 u163 u165 u166 u167 u168 u169 u170 u171 u172 u173 u174 u175 u176 u177 u178 :  Value) (x121_123 : Bool) (HO_129001 : Aside0 (k52.R 52 wc w.heap.size (fun x => True) (Value.slice Ao58 x129001_27.length co58) x129001_27)) (BK128 :  Aside0 (wc.heap[gb128]? = some (Obj.cells #[Value.int IntKind.i64 a0_0, Value.slice Ao58 x129001_27.length co58, Value.int IntKind.u64 x129002_47, Value.int IntKind.u64 x129003_47, Value.int IntKind.u64 a0_4, Value.int IntKind.u64 a0_5, Value.int IntKind.u64 x129006_3, Value.int IntKind.u64 a0_7, Value.int IntKind.u64 a0_8, Value.int IntKind.u64 x129009_3] 26))) (BK129 :  Aside0 (wc.heap[gb129]? = some (Obj.cells #[Value.int IntKind.u64 a1_0, Value.int IntKind.u64 a1_1, Value.int IntKind.u64 a1_2, Value.int IntKind.u64 a1_3, Value.int IntKind.u64 a1_4, Value.int IntKind.u64 a1_5, Value.int IntKind.u64 a1_6, Value.int IntKind.u64 a1_7, Value.bool a1_8, Value.bool a1_9] 28))) (BK130 :  Aside0 (wc.heap[gb130]? = some (Obj.cells #[Value.int IntKind.i64 0, Value.slice none 0 0, Value.int IntKind.u64 0, Value.int IntKind.u64 0, Value.int IntKind.u64 0, Value.int IntKind.u64 0, Value.int IntKind.u64 0, Value.int IntKind.u64 0, Value.int IntKind.u64 0, Value.int IntKind.u64 0] 26))) (HB : Aside0 (Below w.heap.size w wc)) (kj123 : Nat) (HJ123 : Aside0 (kj123 + 1 ≤ kj92)) (H :  (if x121_123 = true then (probe_Ack_1.f 2 0 a1_0).bind fun t146 => some (2, x129001_27, x129002_47, x129003_47, a0_4, a0_5, x129006_3, 0, a1_0, x129009_3) else if a0_0 = 2 then j8 kj123 (decide (a1_0 ≥ t141)) a0_0 x129001_27 x129002_47 x129003_47 a0_4 a0_5 x129006_3 a0_7 a0_8 x129009_3 a1_0 a1_1 a1_2 a1_3 a1_4 a1_5 a1_6 a1_7 a1_8 a1_9 else j8 kj123 false a0_0 x129001_27 x129002_47 x129003_47 a0_4 a0_5 x129006_3 a0_7 a0_8 x129009_3 a1_0 a1_1 a1_2 a1_3 a1_4 a1_5 a1_6 a1_7 a1_8 a1_9) = some (r1, r2, r3, r4, r5, r6, r7, r8, r9, r10)) (C_ : Code) (hC_ : secondC (secondC (secondC (secondC (secondC (firstC (firstC (secondC (secondC (secondC (secondC (secondC (secondC (secondC (secondC (Try.f11.body.getD .skip))))))))))))))) = C_) (D1_ : Code) (hD1_ : secondC (secondC (secondC (secondC (secondC (secondC (secondC (secondC (secondC (Try.f11.body.getD .skip))))))))) = D1_) (K1_ : Act → World → Prop) (aK1_ : ∀ (a9_ : Act) (w9_ : World), Code.wp Try.prog D1_ (bodyPost Try.prog Try.f11 fun e w' => ∃ v1_, e = Ending.returned (Value.agg #[Value.int IntKind.i64 r1, v1_, Value.int IntKind.u64 r3, Value.int IntKind.u64 r4, Value.int IntKind.u64 r5, Value.int IntKind.u64 r6, Value.int IntKind.u64 r7, Value.int IntKind.u64 r8, Value.int IntKind.u64 r9, Value.int IntKind.u64 r10]) ∧ k52.R 52 w' w.heap.size (fun x => True) v1_ r2 ∧ Below w.heap.size w w') a9_ w9_ → K1_ a9_ w9_) :
    Code.wp Try.prog C_ (Exit.inBlock 0 (Exit.then K1_ (bodyPost Try.prog Try.f11 fun e w' => ∃ v1_, e = Ending.returned (Value.agg #[Value.int IntKind.i64 r1, v1_, Value.int IntKind.u64 r3, Value.int IntKind.u64 r4, Value.int IntKind.u64 r5, Value.int IntKind.u64 r6, Value.int IntKind.u64 r7, Value.int IntKind.u64 r8, Value.int IntKind.u64 r9, Value.int IntKind.u64 r10]) ∧ k52.R 52 w' w.heap.size (fun x => True) v1_ r2 ∧ Below w.heap.size w w'))) { tmps := #[Value.agg #[Value.int IntKind.i64 a0_0, Value.slice A0_1 l0_1.length c0_1, Value.int IntKind.u64 a0_2, Value.int IntKind.u64 a0_3, Value.int IntKind.u64 a0_4, Value.int IntKind.u64 a0_5, Value.int IntKind.u64 a0_6, Value.int IntKind.u64 a0_7, Value.int IntKind.u64 a0_8, Value.int IntKind.u64 a0_9], Value.agg #[Value.int IntKind.u64 a1_0, Value.int IntKind.u64 a1_1, Value.int IntKind.u64 a1_2, Value.int IntKind.u64 a1_3, Value.int IntKind.u64 a1_4, Value.int IntKind.u64 a1_5, Value.int IntKind.u64 a1_6, Value.int IntKind.u64 a1_7, Value.bool a1_8, Value.bool a1_9], Value.pointer (some { block := gb128, off := 0 }), Value.pointer (some { block := gb129, off := 0 }), Value.pointer (some { block := gb130, off := 0 }), Value.bool (decide (t141 ≤ a1_0)), Value.func (Fn.func 29) #[] #[Value.pointer (some { block := gb129, off := 0 }), Value.pointer (some { block := gb128, off := 0 })], Value.int IntKind.u64 t142, u8, u9, u10, u11, u12, u13, u14, u15, u16, u17, u18, u19, u20, u21, u22, u23, u24, u25, u26, u27, u28, u29, u30, u31, u32, u33, u34, u35, u36, u37, u38, u39, u40, u41, u42, u43, u44, u45, u46, u47, u48, u49, u50, u51, u52, u53, u54, u55, u56, u57, u58, u59, u60, u61, u62, u63, u64, u65, u66, u67, u68, u69, Value.bool false, u71, u72, u73, u74, u75, u76, u77, u78, u79, u80, u81, u82, u83, u84, u85, u86, u87, u88, u89, u90, u91, u92, u93, u94, u95, u96, u97, u98, u99, Value.bool false, u101, u102, u103, u104, u105, u106, u107, u108, u109, u110, u111, u112, u113, u114, u115, u116, u117, u118, u119, u120, Value.bool x121_123, u122, u123, u124, u125, u126, u127, u128, u129, u130, u131, u132, u133, undef, u135, u136, u137, u138, u139, u140, u141, u142, u143, u144, undef, u146, u147, u148, u149, u150, u151, u152, u153, u154, u155, u156, u157, u158, u159, u160, u161, u162, u163, undef, u165, u166, u167, u168, u169, u170, u171, u172, u173, u174, u175, u176, u177, u178], defers := [] } wc := by
  unfold Try.f11 at hC_
  dsimp only [Option.getD_some, firstC, secondC] at hC_
  subst hC_
  unfold Try.f11 at hD1_
  dsimp only [Option.getD_some, firstC, secondC] at hD1_
  subst hD1_
  try dsimp only
  by_cases c130 : x121_123 = true
  ·subst c130
   have H1 : ((probe_Ack_1.f 2 0 a1_0).bind fun t146 => (some (2, x129001_27, x129002_47, x129003_47, a0_4, a0_5, x129006_3, 0, a1_0, x129009_3))) = some (r1, r2, r3, r4, r5, r6, r7, r8, r9, r10) := by rw [if_pos rfl] at H; exact H
   clear H
   have H := H1
   clear H1
   replace H := Option.bind_eq_some_iff.mp H
   obtain ⟨t146, A1310, H⟩ := H
   replace H : (some (2, x129001_27, x129002_47, x129003_47, a0_4, a0_5, x129006_3, 0, a1_0, x129009_3)) = some (r1, r2, r3, r4, r5, r6, r7, r8, r9, r10) := H
   have A131 := Aside0.mk A1310
   clear A1310
   simp only [Option.some.injEq, Prod.mk.injEq] at H
   obtain ⟨rfl, rfl, rfl, rfl, rfl, rfl, rfl, rfl, rfl, rfl⟩ := H
   have hnb132 := NB129_128.out; have hnc132 := NB128_129.out; have hnb133 := NB129_130.out; have hnc133 := NB130_129.out; have hcz134_0 := cells10_ BK129.out; have hfz134_0 := froz10_ BK129.out
   go_wp2_with (first | ((go_at_call 29); (first | (have hC_ := probe_Ack_1.C 2 0 a1_0 gb129 gb128 _ ((blk_cell BK129.out 0).trans rfl) BK128.out (by simp) NB129_128.out; refine Calls.mono hC_ ?_) | refine Calls.mono (probe_Ack_1.C 2 0 a1_0 gb129 gb128 _ ((blk_cell (bN_ BK129.out _) 0).trans rfl) (bN_ BK128.out _) (by simp) NB129_128.out) ?_); rintro e w' ⟨rfl, nd, rfl⟩; (try (rw [drewN_self wc]; generalize hq_ : World.drewN wc _ = wc; have n0_ : Aside0 (Kd.R k52 52 wc w.heap.size (fun _ => True) (.slice Ao58 x129001_27.length co58) x129001_27) := ⟨by rw [← hq_]; exact (by (with_reducible repeat (first | apply Kd.R_alloc | apply Kd.R_drewN | apply Kd.R_drew)); exact HO_129001.out)⟩; have n1_ : Aside0 (wc.heap[gb128]? = some (.cells #[.int .i64 a0_0, .slice Ao58 x129001_27.length co58, .int .u64 x129002_47, .int .u64 x129003_47, .int .u64 a0_4, .int .u64 a0_5, .int .u64 x129006_3, .int .u64 a0_7, .int .u64 a0_8, .int .u64 x129009_3] 26 (0, 0))) := ⟨by rw [← hq_]; exact (by (with_reducible repeat first|apply bN_|apply bD_|apply bA_); exact BK128.out)⟩; have n2_ : Aside0 (wc.heap[gb129]? = some (.cells #[.int .u64 a1_0, .int .u64 a1_1, .int .u64 a1_2, .int .u64 a1_3, .int .u64 a1_4, .int .u64 a1_5, .int .u64 a1_6, .int .u64 a1_7, .bool a1_8, .bool a1_9] 28 (0, 0))) := ⟨by rw [← hq_]; exact (by (with_reducible repeat first|apply bN_|apply bD_|apply bA_); exact BK129.out)⟩; have n3_ : Aside0 (wc.heap[gb130]? = some (.cells #[.int .i64 0, .slice none 0 0, .int .u64 0, .int .u64 0, .int .u64 0, .int .u64 0, .int .u64 0, .int .u64 0, .int .u64 0, .int .u64 0] 26 (0, 0))) := ⟨by rw [← hq_]; exact (by (with_reducible repeat first|apply bN_|apply bD_|apply bA_); exact BK130.out)⟩; have n4_ : Aside0 (Below w.heap.size w wc) := ⟨by rw [← hq_]; exact (by repeat (first | (with_reducible first | exact HB.out | apply b1_ | apply b2_ | apply b3_ | refine bS_ ?_ GE128.out | refine bS_ ?_ GE129.out | refine bS_ ?_ GE130.out) | exact HB.out))⟩; clear HO_129001 BK128 BK129 BK130 HB hq_; have HO_129001 := n0_; have BK128 := n1_; have BK129 := n2_; have BK130 := n3_; have HB := n4_; clear n0_ n1_ n2_ n3_ n4_)); have hnb135 := NB128_130.out; have hnc135 := NB130_128.out; have hcz136_0 := cells10_ BK128.out; have hfz136_0 := froz10_ BK128.out; have hcz137_0 := cells10_ BK130.out; have hfz137_0 := froz9_ BK130.out; have hfz137_9 := blk_frozen BK130.out 9))
   refine bodyPost_ret (results_cell_row rfl _ _ gb130 26 #[.int .i64 2, .slice Ao58 x129001_27.length co58, .int .u64 x129002_47, .int .u64 x129003_47, .int .u64 a0_4, .int .u64 a0_5, .int .u64 x129006_3, .int .u64 0, .int .u64 a1_0, .int .u64 x129009_3] (0, 0) _ rfl (by (with_reducible repeat first|apply bN_|apply bD_|apply bA_); refine blk_put (cs := #[.int .i64 2, .slice Ao58 x129001_27.length co58, .int .u64 x129002_47, .int .u64 x129003_47, .int .u64 a0_4, .int .u64 a0_5, .int .u64 x129006_3, .int .u64 0, .int .u64 a1_0, .int .u64 0]) ?_ 9 _ rfl; (with_reducible repeat first|apply bN_|apply bD_|apply bA_); refine blk_put (cs := #[.int .i64 2, .slice Ao58 x129001_27.length co58, .int .u64 x129002_47, .int .u64 x129003_47, .int .u64 a0_4, .int .u64 a0_5, .int .u64 x129006_3, .int .u64 0, .int .u64 0, .int .u64 0]) ?_ 8 _ rfl; (with_reducible repeat first|apply bN_|apply bD_|apply bA_); refine blk_put (cs := #[.int .i64 2, .slice Ao58 x129001_27.length co58, .int .u64 x129002_47, .int .u64 x129003_47, .int .u64 a0_4, .int .u64 a0_5, .int .u64 x129006_3, .int .u64 0, .int .u64 0, .int .u64 0]) ?_ 7 _ rfl; (with_reducible repeat first|apply bN_|apply bD_|apply bA_); refine blk_put (cs := #[.int .i64 2, .slice Ao58 x129001_27.length co58, .int .u64 x129002_47, .int .u64 x129003_47, .int .u64 a0_4, .int .u64 a0_5, .int .u64 0, .int .u64 0, .int .u64 0, .int .u64 0]) ?_ 6 _ rfl; (with_reducible repeat first|apply bN_|apply bD_|apply bA_); refine blk_put (cs := #[.int .i64 2, .slice Ao58 x129001_27.length co58, .int .u64 x129002_47, .int .u64 x129003_47, .int .u64 a0_4, .int .u64 0, .int .u64 0, .int .u64 0, .int .u64 0, .int .u64 0]) ?_ 5 _ rfl; (with_reducible repeat first|apply bN_|apply bD_|apply bA_); refine blk_put (cs := #[.int .i64 2, .slice Ao58 x129001_27.length co58, .int .u64 x129002_47, .int .u64 x129003_47, .int .u64 0, .int .u64 0, .int .u64 0, .int .u64 0, .int .u64 0, .int .u64 0]) ?_ 4 _ rfl; (with_reducible repeat first|apply bN_|apply bD_|apply bA_); refine blk_put (cs := #[.int .i64 2, .slice Ao58 x129001_27.length co58, .int .u64 x129002_47, .int .u64 0, .int .u64 0, .int .u64 0, .int .u64 0, .int .u64 0, .int .u64 0, .int .u64 0]) ?_ 3 _ rfl; (with_reducible repeat first|apply bN_|apply bD_|apply bA_); refine blk_put (cs := #[.int .i64 2, .slice Ao58 x129001_27.length co58, .int .u64 0, .int .u64 0, .int .u64 0, .int .u64 0, .int .u64 0, .int .u64 0, .int .u64 0, .int .u64 0]) ?_ 2 _ rfl; (with_reducible repeat first|apply bN_|apply bD_|apply bA_); refine blk_put (cs := #[.int .i64 2, .slice none 0 0, .int .u64 0, .int .u64 0, .int .u64 0, .int .u64 0, .int .u64 0, .int .u64 0, .int .u64 0, .int .u64 0]) ?_ 1 _ rfl; (with_reducible repeat first|apply bN_|apply bD_|apply bA_); refine blk_put (cs := #[.int .i64 0, .slice none 0 0, .int .u64 0, .int .u64 0, .int .u64 0, .int .u64 0, .int .u64 0, .int .u64 0, .int .u64 0, .int .u64 0]) ?_ 0 _ rfl; (with_reducible repeat first|apply bN_|apply bD_|apply bA_); refine blk_far ?_ NB130_128.out _; (with_reducible repeat first|apply bN_|apply bD_|apply bA_); refine blk_far ?_ NB130_128.out _; (with_reducible repeat first|apply bN_|apply bD_|apply bA_); refine blk_far ?_ NB130_128.out _; (with_reducible repeat first|apply bN_|apply bD_|apply bA_); exact BK130.out) Try.underlying26 rfl (by kernel_rfl)) rfl ?_
   exact ⟨_, by first | rfl | (simp [errW_none, errW_some] <;> rfl) | (simp [*, errW_none, errW_some] <;> rfl), by (with_reducible repeat (first | apply Kd.R_alloc | apply Kd.R_drewN | apply Kd.R_drew)); exact Kd.R_mono (Kd.R_far (p := ⟨gb130, 9, none⟩) (Kd.R_far (p := ⟨gb130, 8, none⟩) (Kd.R_far (p := ⟨gb130, 7, none⟩) (Kd.R_far (p := ⟨gb130, 6, none⟩) (Kd.R_far (p := ⟨gb130, 5, none⟩) (Kd.R_far (p := ⟨gb130, 4, none⟩) (Kd.R_far (p := ⟨gb130, 3, none⟩) (Kd.R_far (p := ⟨gb130, 2, none⟩) (Kd.R_far (p := ⟨gb130, 1, none⟩) (Kd.R_far (p := ⟨gb130, 0, none⟩) (Kd.R_far (p := ⟨gb128, 8, none⟩) (Kd.R_far (p := ⟨gb128, 7, none⟩) (Kd.R_far (p := ⟨gb128, 0, none⟩) (Kd.R_types (Kd.R_types HO_129001.out BK128.out (by decide)) BK130.out (by decide)) (fun _ hk => hk.1.2) (.int .i64 2)) (fun _ hk => hk.1.2) (.int .u64 0)) (fun _ hk => hk.1.2) (.int .u64 a1_0)) (fun _ hk => hk.2) (.int .i64 2)) (fun _ hk => hk.2) (.slice Ao58 x129001_27.length co58)) (fun _ hk => hk.2) (.int .u64 x129002_47)) (fun _ hk => hk.2) (.int .u64 x129003_47)) (fun _ hk => hk.2) (.int .u64 a0_4)) (fun _ hk => hk.2) (.int .u64 a0_5)) (fun _ hk => hk.2) (.int .u64 x129006_3)) (fun _ hk => hk.2) (.int .u64 0)) (fun _ hk => hk.2) (.int .u64 a1_0)) (fun _ hk => hk.2) (.int .u64 x129009_3)) (fun _ hk => trivial), by repeat (first | (with_reducible first | exact HB.out | apply b1_ | apply b2_ | apply b3_ | refine bS_ ?_ GE128.out | refine bS_ ?_ GE129.out | refine bS_ ?_ GE130.out) | exact HB.out)⟩
  ·replace c130 := Bool.eq_false_iff.mpr c130
   subst c130
   have H1 : (if a0_0 = 2 then (probe_Ack.j8 kj123 (decide (a1_0 ≥ t141)) a0_0 x129001_27 x129002_47 x129003_47 a0_4 a0_5 x129006_3 a0_7 a0_8 x129009_3 a1_0 a1_1 a1_2 a1_3 a1_4 a1_5 a1_6 a1_7 a1_8 a1_9) else (probe_Ack.j8 kj123 false a0_0 x129001_27 x129002_47 x129003_47 a0_4 a0_5 x129006_3 a0_7 a0_8 x129009_3 a1_0 a1_1 a1_2 a1_3 a1_4 a1_5 a1_6 a1_7 a1_8 a1_9)) = some (r1, r2, r3, r4, r5, r6, r7, r8, r9, r10) := by rw [if_neg (show ¬ (false = true) by decide)] at H; exact H
   clear H
   have H := H1
   clear H1
   have HC138 := Aside0.mk H
   clear H
   go_upto_region 20 with (fail)
   go_cut [134] (fun v134 wc => ∃ (kq : Nat) (x134_137 : Bool), v134 = .bool x134_137 ∧ Aside0 (probe_Ack.j8 kq x134_137 a0_0 x129001_27 x129002_47 x129003_47 a0_4 a0_5 x129006_3 a0_7 a0_8 x129009_3 a1_0 a1_1 a1_2 a1_3 a1_4 a1_5 a1_6 a1_7 a1_8 a1_9 = some (r1, r2, r3, r4, r5, r6, r7, r8, r9, r10)) ∧ Aside0 (kq ≤ kj123) ∧ Aside0 (Kd.R k52 52 wc w.heap.size (fun _ => True) (.slice Ao58 x129001_27.length co58) x129001_27) ∧ Aside0 (wc.heap[gb128]? = some (.cells #[.int .i64 a0_0, (.slice Ao58 x129001_27.length co58), .int .u64 x129002_47, .int .u64 x129003_47, .int .u64 a0_4, .int .u64 a0_5, .int .u64 x129006_3, .int .u64 a0_7, .int .u64 a0_8, .int .u64 x129009_3] 26 (0, 0))) ∧ Aside0 (wc.heap[gb129]? = some (.cells #[.int .u64 a1_0, .int .u64 a1_1, .int .u64 a1_2, .int .u64 a1_3, .int .u64 a1_4, .int .u64 a1_5, .int .u64 a1_6, .int .u64 a1_7, .bool a1_8, .bool a1_9] 28 (0, 0))) ∧ Aside0 (wc.heap[gb130]? = some (.cells #[.int .i64 0, (.slice none 0 0), .int .u64 0, .int .u64 0, .int .u64 0, .int .u64 0, .int .u64 0, .int .u64 0, .int .u64 0, .int .u64 0] 26 (0, 0))) ∧ Aside0 (Below w.heap.size w wc))
   case first =>
    have H := HC138.out
    clear HC138
    by_cases c139 : a0_0 = 2
    ·rw [if_pos c139] at H
     have c139b0 : (a0_0 == 2) = true := beq_iff_eq.mpr c139
     have c139b1 : (a0_0 != 2) = false := bne_eq_false_iff_eq.mpr c139
     clear c139
     (first | rw [c139b0] | (simp only [i64_w, i32_w]; rw [c139b0]) | skip)
     have H' := Aside0.mk H
     clear H; have hnb140 := NB128_129.out; have hnc140 := NB129_128.out; have hnb141 := NB128_130.out; have hnc141 := NB130_128.out; have hcz142_0 := cells10_ BK128.out; have hfz142_0 := froz10_ BK128.out
     go_wp2
     go_meet
     case rel => exact ⟨_, ((decide (a1_0 ≥ t141))), (by first | rfl | (simp; done) | (simp [*]; done)), H', ⟨by have := HJ3.out; have := HJ22.out; have := HJ27.out; have := HJ39.out; have := HJ47.out; have := HJ53.out; have := HJ92.out; have := HJ123.out; first | omega | exact Nat.le_refl _⟩, ⟨by (with_reducible repeat (first | apply Kd.R_alloc | apply Kd.R_drewN | apply Kd.R_drew)); exact HO_129001.out⟩, ⟨by (with_reducible repeat first|apply bN_|apply bD_|apply bA_); exact BK128.out⟩, ⟨by (with_reducible repeat first|apply bN_|apply bD_|apply bA_); exact BK129.out⟩, ⟨by (with_reducible repeat first|apply bN_|apply bD_|apply bA_); exact BK130.out⟩, ⟨by repeat (first | (with_reducible first | exact HB.out | apply b1_ | apply b2_ | apply b3_ | refine bS_ ?_ GE128.out | refine bS_ ?_ GE129.out | refine bS_ ?_ GE130.out) | exact HB.out)⟩⟩
    ·rw [if_neg c139] at H
     have c139b0 : (a0_0 == 2) = false := beq_eq_false_iff_ne.mpr c139
     have c139b1 : (a0_0 != 2) = true := bne_iff_ne.mpr c139
     (first | rw [c139b0] | (simp only [i64_w, i32_w]; rw [c139b0]) | skip)
     have H' := Aside0.mk H
     clear H; have hnb143 := NB128_129.out; have hnc143 := NB129_128.out; have hnb144 := NB128_130.out; have hnc144 := NB130_128.out; have hcz145_0 := cells10_ BK128.out; have hfz145_0 := froz10_ BK128.out
     go_wp2
     go_meet
     case rel => exact ⟨_, (false), (by first | rfl | (simp; done) | (simp [*]; done)), H', ⟨by have := HJ3.out; have := HJ22.out; have := HJ27.out; have := HJ39.out; have := HJ47.out; have := HJ53.out; have := HJ92.out; have := HJ123.out; first | omega | exact Nat.le_refl _⟩, ⟨by (with_reducible repeat (first | apply Kd.R_alloc | apply Kd.R_drewN | apply Kd.R_drew)); exact HO_129001.out⟩, ⟨by (with_reducible repeat first|apply bN_|apply bD_|apply bA_); exact BK128.out⟩, ⟨by (with_reducible repeat first|apply bN_|apply bD_|apply bA_); exact BK129.out⟩, ⟨by (with_reducible repeat first|apply bN_|apply bD_|apply bA_); exact BK130.out⟩, ⟨by repeat (first | (with_reducible first | exact HB.out | apply b1_ | apply b2_ | apply b3_ | refine bS_ ?_ GE128.out | refine bS_ ?_ GE129.out | refine bS_ ?_ GE130.out) | exact HB.out)⟩⟩
   case rest =>
    (try clear hnb132); (try clear hnc132); (try clear hnb133); (try clear hnc133); (try clear hcz134_0); (try clear hfz134_0); (try clear hnb135); (try clear hnc135); (try clear hcz136_0); (try clear hfz136_0); (try clear hcz137_0); (try clear hfz137_0 hfz137_9)
    clear HC138; (try clear c1); (try clear c2); (try clear p2); (try clear c10); (try clear c11); (try clear c12); (try clear c13); (try clear c14); (try clear c17); (try clear c26); (try clear c29); (try clear c109); (try clear c111); (try clear c111b0); (try clear c111b1); (try clear c112); (try clear c113); (try clear c116); (try clear c118); (try clear c119); (try clear c122); (try clear c125); (try clear c125b0); (try clear c125b1); (try clear c130); (try clear c132); (try clear c133); (try clear c135); (try clear c139); (try clear c139b0); (try clear c139b1); (try clear c140); (try clear c141); (try clear c143); (try clear c144); (try clear p2)
    (try clear HO_129001); (try clear BK128); (try clear BK129); (try clear BK130); (try clear HB)
    obtain ⟨kq, x134_137, rfl, HA, HJ137, HO_129001, BK128, BK129, BK130, HB⟩ := hcut
    cases kq with
    | zero => exact absurd HA.out (by simp [probe_Ack.j8])
    | succ kj137 =>
     have H := HA.out
     clear HA
     simp only [probe_Ack.j8] at H
     by_cases c146 : x134_137 = true
     ·subst c146
      have H1 : ((probe_Ack_1.f 3 a0_7 a1_0).bind fun t147 => (some (3, x129001_27, x129002_47, x129003_47, a0_4, a0_5, x129006_3, a0_7, a1_0, x129009_3))) = some (r1, r2, r3, r4, r5, r6, r7, r8, r9, r10) := by rw [if_pos rfl] at H; exact H
      clear H
      have H := H1
      clear H1
      replace H := Option.bind_eq_some_iff.mp H
      obtain ⟨t147, A1470, H⟩ := H
      replace H : (some (3, x129001_27, x129002_47, x129003_47, a0_4, a0_5, x129006_3, a0_7, a1_0, x129009_3)) = some (r1, r2, r3, r4, r5, r6, r7, r8, r9, r10) := H
      have A147 := Aside0.mk A1470
      clear A1470
      simp only [Option.some.injEq, Prod.mk.injEq] at H
      obtain ⟨rfl, rfl, rfl, rfl, rfl, rfl, rfl, rfl, rfl, rfl⟩ := H
      have hnb148 := NB128_129.out; have hnc148 := NB129_128.out; have hnb149 := NB128_130.out; have hnc149 := NB130_128.out; have hcz150_0 := cells10_ BK128.out; have hfz150_0 := froz10_ BK128.out; have hnb151 := NB129_130.out; have hnc151 := NB130_129.out; have hcz152_0 := cells10_ BK129.out; have hfz152_0 := froz10_ BK129.out
      go_wp2_with (first | ((go_at_call 29); (first | (have hC_ := probe_Ack_1.C 3 a0_7 a1_0 gb129 gb128 _ ((blk_cell BK129.out 0).trans rfl) BK128.out (by simp) NB129_128.out; refine Calls.mono hC_ ?_) | refine Calls.mono (probe_Ack_1.C 3 a0_7 a1_0 gb129 gb128 _ ((blk_cell (bN_ BK129.out _) 0).trans rfl) (bN_ BK128.out _) (by simp) NB129_128.out) ?_); rintro e w' ⟨rfl, nd, rfl⟩; (try (rw [drewN_self wc]; generalize hq_ : World.drewN wc _ = wc; have n0_ : Aside0 (Kd.R k52 52 wc w.heap.size (fun _ => True) (.slice Ao58 x129001_27.length co58) x129001_27) := ⟨by rw [← hq_]; exact (by (with_reducible repeat (first | apply Kd.R_alloc | apply Kd.R_drewN | apply Kd.R_drew)); exact HO_129001.out)⟩; have n1_ : Aside0 (wc.heap[gb128]? = some (.cells #[.int .i64 a0_0, .slice Ao58 x129001_27.length co58, .int .u64 x129002_47, .int .u64 x129003_47, .int .u64 a0_4, .int .u64 a0_5, .int .u64 x129006_3, .int .u64 a0_7, .int .u64 a0_8, .int .u64 x129009_3] 26 (0, 0))) := ⟨by rw [← hq_]; exact (by (with_reducible repeat first|apply bN_|apply bD_|apply bA_); exact BK128.out)⟩; have n2_ : Aside0 (wc.heap[gb129]? = some (.cells #[.int .u64 a1_0, .int .u64 a1_1, .int .u64 a1_2, .int .u64 a1_3, .int .u64 a1_4, .int .u64 a1_5, .int .u64 a1_6, .int .u64 a1_7, .bool a1_8, .bool a1_9] 28 (0, 0))) := ⟨by rw [← hq_]; exact (by (with_reducible repeat first|apply bN_|apply bD_|apply bA_); exact BK129.out)⟩; have n3_ : Aside0 (wc.heap[gb130]? = some (.cells #[.int .i64 0, .slice none 0 0, .int .u64 0, .int .u64 0, .int .u64 0, .int .u64 0, .int .u64 0, .int .u64 0, .int .u64 0, .int .u64 0] 26 (0, 0))) := ⟨by rw [← hq_]; exact (by (with_reducible repeat first|apply bN_|apply bD_|apply bA_); exact BK130.out)⟩; have n4_ : Aside0 (Below w.heap.size w wc) := ⟨by rw [← hq_]; exact (by repeat (first | (with_reducible first | exact HB.out | apply b1_ | apply b2_ | apply b3_ | refine bS_ ?_ GE128.out | refine bS_ ?_ GE129.out | refine bS_ ?_ GE130.out) | exact HB.out))⟩; clear HO_129001 BK128 BK129 BK130 HB hq_; have HO_129001 := n0_; have BK128 := n1_; have BK129 := n2_; have BK130 := n3_; have HB := n4_; clear n0_ n1_ n2_ n3_ n4_)); have hcz153_0 := cells10_ BK128.out; have hfz153_0 := froz10_ BK128.out; have hcz154_0 := cells10_ BK130.out; have hfz154_0 := froz9_ BK130.out; have hfz154_9 := blk_frozen BK130.out 9))
      refine bodyPost_ret (results_cell_row rfl _ _ gb130 26 #[.int .i64 3, .slice Ao58 x129001_27.length co58, .int .u64 x129002_47, .int .u64 x129003_47, .int .u64 a0_4, .int .u64 a0_5, .int .u64 x129006_3, .int .u64 a0_7, .int .u64 a1_0, .int .u64 x129009_3] (0, 0) _ rfl (by (with_reducible repeat first|apply bN_|apply bD_|apply bA_); refine blk_put (cs := #[.int .i64 3, .slice Ao58 x129001_27.length co58, .int .u64 x129002_47, .int .u64 x129003_47, .int .u64 a0_4, .int .u64 a0_5, .int .u64 x129006_3, .int .u64 a0_7, .int .u64 a1_0, .int .u64 0]) ?_ 9 _ rfl; (with_reducible repeat first|apply bN_|apply bD_|apply bA_); refine blk_put (cs := #[.int .i64 3, .slice Ao58 x129001_27.length co58, .int .u64 x129002_47, .int .u64 x129003_47, .int .u64 a0_4, .int .u64 a0_5, .int .u64 x129006_3, .int .u64 a0_7, .int .u64 0, .int .u64 0]) ?_ 8 _ rfl; (with_reducible repeat first|apply bN_|apply bD_|apply bA_); refine blk_put (cs := #[.int .i64 3, .slice Ao58 x129001_27.length co58, .int .u64 x129002_47, .int .u64 x129003_47, .int .u64 a0_4, .int .u64 a0_5, .int .u64 x129006_3, .int .u64 0, .int .u64 0, .int .u64 0]) ?_ 7 _ rfl; (with_reducible repeat first|apply bN_|apply bD_|apply bA_); refine blk_put (cs := #[.int .i64 3, .slice Ao58 x129001_27.length co58, .int .u64 x129002_47, .int .u64 x129003_47, .int .u64 a0_4, .int .u64 a0_5, .int .u64 0, .int .u64 0, .int .u64 0, .int .u64 0]) ?_ 6 _ rfl; (with_reducible repeat first|apply bN_|apply bD_|apply bA_); refine blk_put (cs := #[.int .i64 3, .slice Ao58 x129001_27.length co58, .int .u64 x129002_47, .int .u64 x129003_47, .int .u64 a0_4, .int .u64 0, .int .u64 0, .int .u64 0, .int .u64 0, .int .u64 0]) ?_ 5 _ rfl; (with_reducible repeat first|apply bN_|apply bD_|apply bA_); refine blk_put (cs := #[.int .i64 3, .slice Ao58 x129001_27.length co58, .int .u64 x129002_47, .int .u64 x129003_47, .int .u64 0, .int .u64 0, .int .u64 0, .int .u64 0, .int .u64 0, .int .u64 0]) ?_ 4 _ rfl; (with_reducible repeat first|apply bN_|apply bD_|apply bA_); refine blk_put (cs := #[.int .i64 3, .slice Ao58 x129001_27.length co58, .int .u64 x129002_47, .int .u64 0, .int .u64 0, .int .u64 0, .int .u64 0, .int .u64 0, .int .u64 0, .int .u64 0]) ?_ 3 _ rfl; (with_reducible repeat first|apply bN_|apply bD_|apply bA_); refine blk_put (cs := #[.int .i64 3, .slice Ao58 x129001_27.length co58, .int .u64 0, .int .u64 0, .int .u64 0, .int .u64 0, .int .u64 0, .int .u64 0, .int .u64 0, .int .u64 0]) ?_ 2 _ rfl; (with_reducible repeat first|apply bN_|apply bD_|apply bA_); refine blk_put (cs := #[.int .i64 3, .slice none 0 0, .int .u64 0, .int .u64 0, .int .u64 0, .int .u64 0, .int .u64 0, .int .u64 0, .int .u64 0, .int .u64 0]) ?_ 1 _ rfl; (with_reducible repeat first|apply bN_|apply bD_|apply bA_); refine blk_put (cs := #[.int .i64 0, .slice none 0 0, .int .u64 0, .int .u64 0, .int .u64 0, .int .u64 0, .int .u64 0, .int .u64 0, .int .u64 0, .int .u64 0]) ?_ 0 _ rfl; (with_reducible repeat first|apply bN_|apply bD_|apply bA_); refine blk_far ?_ NB130_128.out _; (with_reducible repeat first|apply bN_|apply bD_|apply bA_); refine blk_far ?_ NB130_128.out _; (with_reducible repeat first|apply bN_|apply bD_|apply bA_); refine blk_far ?_ NB130_128.out _; (with_reducible repeat first|apply bN_|apply bD_|apply bA_); exact BK130.out) Try.underlying26 rfl (by kernel_rfl)) rfl ?_
      exact ⟨_, by first | rfl | (simp [errW_none, errW_some] <;> rfl) | (simp [*, errW_none, errW_some] <;> rfl), by (with_reducible repeat (first | apply Kd.R_alloc | apply Kd.R_drewN | apply Kd.R_drew)); exact Kd.R_mono (Kd.R_far (p := ⟨gb130, 9, none⟩) (Kd.R_far (p := ⟨gb130, 8, none⟩) (Kd.R_far (p := ⟨gb130, 7, none⟩) (Kd.R_far (p := ⟨gb130, 6, none⟩) (Kd.R_far (p := ⟨gb130, 5, none⟩) (Kd.R_far (p := ⟨gb130, 4, none⟩) (Kd.R_far (p := ⟨gb130, 3, none⟩) (Kd.R_far (p := ⟨gb130, 2, none⟩) (Kd.R_far (p := ⟨gb130, 1, none⟩) (Kd.R_far (p := ⟨gb130, 0, none⟩) (Kd.R_far (p := ⟨gb128, 8, none⟩) (Kd.R_far (p := ⟨gb128, 7, none⟩) (Kd.R_far (p := ⟨gb128, 0, none⟩) (Kd.R_types (Kd.R_types HO_129001.out BK128.out (by decide)) BK130.out (by decide)) (fun _ hk => hk.1.2) (.int .i64 3)) (fun _ hk => hk.1.2) (.int .u64 a0_7)) (fun _ hk => hk.1.2) (.int .u64 a1_0)) (fun _ hk => hk.2) (.int .i64 3)) (fun _ hk => hk.2) (.slice Ao58 x129001_27.length co58)) (fun _ hk => hk.2) (.int .u64 x129002_47)) (fun _ hk => hk.2) (.int .u64 x129003_47)) (fun _ hk => hk.2) (.int .u64 a0_4)) (fun _ hk => hk.2) (.int .u64 a0_5)) (fun _ hk => hk.2) (.int .u64 x129006_3)) (fun _ hk => hk.2) (.int .u64 a0_7)) (fun _ hk => hk.2) (.int .u64 a1_0)) (fun _ hk => hk.2) (.int .u64 x129009_3)) (fun _ hk => trivial), by repeat (first | (with_reducible first | exact HB.out | apply b1_ | apply b2_ | apply b3_ | refine bS_ ?_ GE128.out | refine bS_ ?_ GE129.out | refine bS_ ?_ GE130.out) | exact HB.out)⟩
     ·replace c146 := Bool.eq_false_iff.mpr c146
      subst c146
      have H1 : (if a0_0 = 2 then ((fix_Add.f a0_8 x129002_47).bind fun t148 => (probe_Ack.j9 kj137 (decide (a1_0 ≥ t148)) a0_0 x129001_27 x129002_47 x129003_47 a0_4 a0_5 x129006_3 a0_7 a0_8 x129009_3 a1_0 a1_1 a1_2 a1_3 a1_4 a1_5 a1_6 a1_7 a1_8 a1_9)) else (probe_Ack.j9 kj137 false a0_0 x129001_27 x129002_47 x129003_47 a0_4 a0_5 x129006_3 a0_7 a0_8 x129009_3 a1_0 a1_1 a1_2 a1_3 a1_4 a1_5 a1_6 a1_7 a1_8 a1_9)) = some (r1, r2, r3, r4, r5, r6, r7, r8, r9, r10) := by rw [if_neg (show ¬ (false = true) by decide)] at H; exact H
      clear H
      have H := H1
      clear H1
      have HC155 := Aside0.mk H
      clear H
      go_upto_region 22 with (fail)
      go_cut [145] (fun v145 wc => ∃ (kq : Nat) (x145_154 : Bool), v145 = .bool x145_154 ∧ Aside0 (probe_Ack.j9 kq x145_154 a0_0 x129001_27 x129002_47 x129003_47 a0_4 a0_5 x129006_3 a0_7 a0_8 x129009_3 a1_0 a1_1 a1_2 a1_3 a1_4 a1_5 a1_6 a1_7 a1_8 a1_9 = some (r1, r2, r3, r4, r5, r6, r7, r8, r9, r10)) ∧ Aside0 (kq ≤ kj137) ∧ Aside0 (Kd.R k52 52 wc w.heap.size (fun _ => True) (.slice Ao58 x129001_27.length co58) x129001_27) ∧ Aside0 (wc.heap[gb128]? = some (.cells #[.int .i64 a0_0, (.slice Ao58 x129001_27.length co58), .int .u64 x129002_47, .int .u64 x129003_47, .int .u64 a0_4, .int .u64 a0_5, .int .u64 x129006_3, .int .u64 a0_7, .int .u64 a0_8, .int .u64 x129009_3] 26 (0, 0))) ∧ Aside0 (wc.heap[gb129]? = some (.cells #[.int .u64 a1_0, .int .u64 a1_1, .int .u64 a1_2, .int .u64 a1_3, .int .u64 a1_4, .int .u64 a1_5, .int .u64 a1_6, .int .u64 a1_7, .bool a1_8, .bool a1_9] 28 (0, 0))) ∧ Aside0 (wc.heap[gb130]? = some (.cells #[.int .i64 0, (.slice none 0 0), .int .u64 0, .int .u64 0, .int .u64 0, .int .u64 0, .int .u64 0, .int .u64 0, .int .u64 0, .int .u64 0] 26 (0, 0))) ∧ Aside0 (Below w.heap.size w wc))
      case first =>
       have H := HC155.out
       clear HC155
       by_cases c156 : a0_0 = 2
       ·rw [if_pos c156] at H
        have c156b0 : (a0_0 == 2) = true := beq_iff_eq.mpr c156
        have c156b1 : (a0_0 != 2) = false := bne_eq_false_iff_eq.mpr c156
        clear c156
        (first | rw [c156b0] | (simp only [i64_w, i32_w]; rw [c156b0]) | skip)
        replace H := Option.bind_eq_some_iff.mp H
        obtain ⟨t148, A1570, H⟩ := H
        replace H : (probe_Ack.j9 kj137 (decide (a1_0 ≥ t148)) a0_0 x129001_27 x129002_47 x129003_47 a0_4 a0_5 x129006_3 a0_7 a0_8 x129009_3 a1_0 a1_1 a1_2 a1_3 a1_4 a1_5 a1_6 a1_7 a1_8 a1_9) = some (r1, r2, r3, r4, r5, r6, r7, r8, r9, r10) := H
        have A157 := Aside0.mk A1570
        clear A1570
        have H' := Aside0.mk H
        clear H
        try go_wp2
        have n0_ := Aside0.mk (Kd.R_drew HO_129001.out); have n1_ := Aside0.mk (blk_drew BK128.out); have n2_ := Aside0.mk (blk_drew BK129.out); have n3_ := Aside0.mk (blk_drew BK130.out); have n4_ := Aside0.mk (below_drew1 HB.out); clear HO_129001; clear BK128; clear BK129; clear BK130; clear HB
        have HO_129001 := n0_
        have BK128 := n1_; have BK129 := n2_; have BK130 := n3_; have HB := n4_; clear n0_ n1_ n2_ n3_ n4_
        refine start_ (n := 14) (S := fun w' => w'.cell? ⟨gb128, 0, none⟩ = some (.int .i64 a0_0) ∧ w'.cell? ⟨gb128, 1, none⟩ = some (.slice Ao58 x129001_27.length co58) ∧ w'.cell? ⟨gb128, 2, none⟩ = some (.int .u64 x129002_47) ∧ w'.cell? ⟨gb128, 3, none⟩ = some (.int .u64 x129003_47) ∧ w'.cell? ⟨gb128, 4, none⟩ = some (.int .u64 a0_4) ∧ w'.cell? ⟨gb128, 5, none⟩ = some (.int .u64 a0_5) ∧ w'.cell? ⟨gb128, 6, none⟩ = some (.int .u64 x129006_3) ∧ w'.cell? ⟨gb128, 7, none⟩ = some (.int .u64 a0_7) ∧ w'.cell? ⟨gb128, 8, none⟩ = some (.int .u64 a0_8) ∧ w'.cell? ⟨gb128, 9, none⟩ = some (.int .u64 x129009_3) ∧ w'.cell? ⟨gb129, 0, none⟩ = some (.int .u64 a1_0) ∧ w'.cell? ⟨gb129, 1, none⟩ = some (.int .u64 a1_1) ∧ w'.cell? ⟨gb129, 2, none⟩ = some (.int .u64 a1_2) ∧ w'.cell? ⟨gb129, 3, none⟩ = some (.int .u64 a1_3) ∧ w'.cell? ⟨gb129, 4, none⟩ = some (.int .u64 a1_4) ∧ w'.cell? ⟨gb129, 5, none⟩ = some (.int .u64 a1_5) ∧ w'.cell? ⟨gb129, 6, none⟩ = some (.int .u64 a1_6) ∧ w'.cell? ⟨gb129, 7, none⟩ = some (.int .u64 a1_7) ∧ w'.cell? ⟨gb129, 8, none⟩ = some (.bool a1_8) ∧ w'.cell? ⟨gb129, 9, none⟩ = some (.bool a1_9)) (ds := []) #[false, false, false, false, false, false, false, false, false, false, false, false, false, false] (by kernel_rfl) rfl rfl ⟨(blk_cell BK128.out 0).trans rfl, (blk_cell BK128.out 1).trans rfl, (blk_cell BK128.out 2).trans rfl, (blk_cell BK128.out 3).trans rfl, (blk_cell BK128.out 4).trans rfl, (blk_cell BK128.out 5).trans rfl, (blk_cell BK128.out 6).trans rfl, (blk_cell BK128.out 7).trans rfl, (blk_cell BK128.out 8).trans rfl, (blk_cell BK128.out 9).trans rfl, (blk_cell BK129.out 0).trans rfl, (blk_cell BK129.out 1).trans rfl, (blk_cell BK129.out 2).trans rfl, (blk_cell BK129.out 3).trans rfl, (blk_cell BK129.out 4).trans rfl, (blk_cell BK129.out 5).trans rfl, (blk_cell BK129.out 6).trans rfl, (blk_cell BK129.out 7).trans rfl, (blk_cell BK129.out 8).trans rfl, (blk_cell BK129.out 9).trans rfl⟩ (fun hHeld => ?_); refine with_tabW probe_Ack.tab22 probe_Ack.bits22 (fun HT_ HW_ => ?_)
        generalize wc.drew = w158 at HO_129001 BK128 BK129 BK130 HB hHeld ⊢
        refine pure_ (i := 0) (N := some 146) (v := ?_) (a' := ?_) #[true, false, false, false, false, false, false, false, false, false, false, false, false, false] rfl rfl (any_of HT_.out (by kernel_rfl)) (fun _ _ _ h => h) (Or.inl ⟨by rfl, ?_⟩) ?_ ?_
        rotate_left; focus (intro w'; go_simp; with_reducible rfl)
        rotate_left; focus (simp only [Act.put, sA_, s0_, s1_, i64_w, i32_w]; rfl)
        refine take_ (i := 1) (N := some 147) (v := ?_) (a' := ?_) #[true, true, false, false, false, false, false, false, false, false, false, false, false, false] rfl rfl (take_ofW HT_.out HW_.out (by kernel_rfl)) (fun _ _ _ h => h) (Or.inl ⟨by rfl, ?_⟩) hHeld ?_ ?_
        rotate_left; focus (rintro w' ⟨s0, s1, s2, s3, s4, s5, s6, s7, s8, s9, s10, s11, s12, s13, s14, s15, s16, s17, s18, s19⟩; go_simp; with_reducible rfl)
        rotate_left; focus (simp only [Act.put, sA_, s0_, s1_, i64_w, i32_w]; rfl)
        refine pure_ (i := 2) (N := some 148) (v := ?_) (a' := ?_) #[true, true, true, false, false, false, false, false, false, false, false, false, false, false] rfl rfl (any_of HT_.out (by kernel_rfl)) (fun _ _ _ h => h) (Or.inl ⟨by rfl, ?_⟩) ?_ ?_
        rotate_left; focus (intro w'; go_simp; with_reducible rfl)
        rotate_left; focus (simp only [Act.put, sA_, s0_, s1_, i64_w, i32_w]; rfl)
        refine pure_ (i := 3) (N := some 149) (v := ?_) (a' := ?_) #[true, true, true, true, false, false, false, false, false, false, false, false, false, false] rfl rfl (any_of HT_.out (by kernel_rfl)) (fun _ _ _ h => h) (Or.inl ⟨by rfl, ?_⟩) ?_ ?_
        rotate_left; focus (intro w'; go_simp; with_reducible rfl)
        rotate_left; focus (simp only [Act.put, sA_, s0_, s1_, i64_w, i32_w]; rfl)
        refine pure_ (i := 4) (N := some 150) (v := ?_) (a' := ?_) #[true, true, true, true, true, false, false, false, false, false, false, false, false, false] rfl rfl (any_of HT_.out (by kernel_rfl)) (fun _ _ _ h => h) (Or.inl ⟨by rfl, ?_⟩) ?_ ?_
        rotate_left; focus (intro w'; go_simp; with_reducible rfl)
        rotate_left; focus (simp only [Act.put, sA_, s0_, s1_, i64_w, i32_w]; rfl)
        refine pure_ (i := 6) (N := some 152) (v := ?_) (a' := ?_) #[true, true, true, true, true, false, true, false, false, false, false, false, false, false] rfl rfl (any_of HT_.out (by kernel_rfl)) (fun _ _ _ h => h) (Or.inl ⟨by rfl, ?_⟩) ?_ ?_
        rotate_left; focus (intro w'; go_simp; with_reducible rfl)
        rotate_left; focus (simp only [Act.put, sA_, s0_, s1_, i64_w, i32_w]; rfl)
        refine pure_ (i := 8) (N := some 154) (v := ?_) (a' := ?_) #[true, true, true, true, true, false, true, false, true, false, false, false, false, false] rfl rfl (any_of HT_.out (by kernel_rfl)) (fun _ _ _ h => h) (Or.inl ⟨by rfl, ?_⟩) ?_ ?_
        rotate_left; focus (intro w'; go_simp; with_reducible rfl)
        rotate_left; focus (simp only [Act.put, sA_, s0_, s1_, i64_w, i32_w]; rfl)
        refine take_ (i := 5) (N := some 151) (v := ?_) (a' := ?_) #[true, true, true, true, true, true, true, false, true, false, false, false, false, false] rfl rfl (take_ofW HT_.out HW_.out (by kernel_rfl)) (fun _ _ _ h => h) (Or.inl ⟨by rfl, ?_⟩) hHeld ?_ ?_
        rotate_left; focus (rintro w' ⟨s0, s1, s2, s3, s4, s5, s6, s7, s8, s9, s10, s11, s12, s13, s14, s15, s16, s17, s18, s19⟩; go_simp; with_reducible rfl)
        rotate_left; focus (simp only [Act.put, sA_, s0_, s1_, i64_w, i32_w]; rfl)
        refine take_ (i := 7) (N := some 153) (v := ?_) (a' := ?_) #[true, true, true, true, true, true, true, true, true, false, false, false, false, false] rfl rfl (take_ofW HT_.out HW_.out (by kernel_rfl)) (fun _ _ _ h => h) (Or.inl ⟨by rfl, ?_⟩) hHeld ?_ ?_
        rotate_left; focus (rintro w' ⟨s0, s1, s2, s3, s4, s5, s6, s7, s8, s9, s10, s11, s12, s13, s14, s15, s16, s17, s18, s19⟩; go_simp; with_reducible rfl)
        rotate_left; focus (simp only [Act.put, sA_, s0_, s1_, i64_w, i32_w]; rfl)
        refine take_ (i := 9) (N := some 155) (v := ?_) (a' := ?_) #[true, true, true, true, true, true, true, true, true, true, false, false, false, false] rfl rfl (take_ofW HT_.out HW_.out (by kernel_rfl)) (fun _ _ _ h => h) (Or.inl ⟨by rfl, ?_⟩) hHeld ?_ ?_
        rotate_left; focus (rintro w' ⟨s0, s1, s2, s3, s4, s5, s6, s7, s8, s9, s10, s11, s12, s13, s14, s15, s16, s17, s18, s19⟩; go_simp; with_reducible rfl)
        rotate_left; focus (simp only [Act.put, sA_, s0_, s1_, i64_w, i32_w]; rfl)
        refine one_ (i := 10) (N := some 156) #[true, true, true, true, true, true, true, true, true, true, true, false, false, false] rfl rfl (one_of HT_.out (by kernel_rfl)) (by decide) (fun K hK => ?_)
        refine goes_ Try.func26 (by kernel_rfl) rfl #[.int .u64 a0_8, .int .u64 x129002_47] (by rfl) rfl rfl (by (try simp only [List.map_toArray, List.map_cons, List.map_nil]); first | done | rfl | (simp only [List.length_drop, List.length_take]; rfl)) ?_
        with_reducible refine (fix_Add.calls a0_8 x129002_47 t148 _ A157.out).mono ?_
        rintro e w' ⟨rfl, ⟨nd, rfl⟩⟩
        refine ⟨_, rfl, ?_⟩
        refine hK.out _ _ ⟨(blk_cell BK128.out 0).trans rfl, (blk_cell BK128.out 1).trans rfl, (blk_cell BK128.out 2).trans rfl, (blk_cell BK128.out 3).trans rfl, (blk_cell BK128.out 4).trans rfl, (blk_cell BK128.out 5).trans rfl, (blk_cell BK128.out 6).trans rfl, (blk_cell BK128.out 7).trans rfl, (blk_cell BK128.out 8).trans rfl, (blk_cell BK128.out 9).trans rfl, (blk_cell BK129.out 0).trans rfl, (blk_cell BK129.out 1).trans rfl, (blk_cell BK129.out 2).trans rfl, (blk_cell BK129.out 3).trans rfl, (blk_cell BK129.out 4).trans rfl, (blk_cell BK129.out 5).trans rfl, (blk_cell BK129.out 6).trans rfl, (blk_cell BK129.out 7).trans rfl, (blk_cell BK129.out 8).trans rfl, (blk_cell BK129.out 9).trans rfl⟩ (fun hHeld => ?_)
        clear hK K
        refine norm_ (a' := ?_) ?_ ?_
        rotate_left
        ·show Act.put _ (some 156) _ = _
         simp only [Act.put, sA_, s0_, s1_, i64_w, i32_w]
         rfl
        refine pure_ (i := 11) (N := some 157) (v := ?_) (a' := ?_) #[true, true, true, true, true, true, true, true, true, true, true, true, false, false] rfl rfl (any_of HT_.out (by kernel_rfl)) (fun _ _ _ h => h) (Or.inl ⟨by rfl, ?_⟩) ?_ ?_
        rotate_left; focus (intro w'; go_simp; with_reducible rfl)
        rotate_left; focus (simp only [Act.put, sA_, s0_, s1_, i64_w, i32_w]; rfl)
        refine pure_ (i := 12) (N := some 158) (v := ?_) (a' := ?_) #[true, true, true, true, true, true, true, true, true, true, true, true, true, false] rfl rfl (any_of HT_.out (by kernel_rfl)) (fun _ _ _ h => h) (Or.inl ⟨by rfl, ?_⟩) ?_ ?_
        rotate_left; focus (intro w'; go_simp; with_reducible rfl)
        rotate_left; focus (simp only [Act.put, sA_, s0_, s1_, i64_w, i32_w]; rfl)
        refine pure_ (i := 13) (N := some 145) (v := ?_) (a' := ?_) #[true, true, true, true, true, true, true, true, true, true, true, true, true, true] rfl rfl (any_of HT_.out (by kernel_rfl)) (fun _ _ _ h => h) (Or.inl ⟨by rfl, ?_⟩) ?_ ?_
        rotate_left; focus (intro w'; go_simp; with_reducible rfl)
        rotate_left; focus (simp only [Act.put, sA_, s0_, s1_, i64_w, i32_w]; rfl)
        refine done_ (done_of HT_.out (by kernel_rfl)) ?_
        try go_wp2
        go_meet
        case rel => exact ⟨_, (decide (a1_0 ≥ t148)), (by first | rfl | (simp; done) | (simp [*]; done)), H', ⟨by have := HJ3.out; have := HJ22.out; have := HJ27.out; have := HJ39.out; have := HJ47.out; have := HJ53.out; have := HJ92.out; have := HJ123.out; have := HJ137.out; first | omega | exact Nat.le_refl _⟩, ⟨by (with_reducible repeat (first | apply Kd.R_alloc | apply Kd.R_drewN | apply Kd.R_drew)); exact HO_129001.out⟩, ⟨by (with_reducible repeat first|apply bN_|apply bD_|apply bA_); exact BK128.out⟩, ⟨by (with_reducible repeat first|apply bN_|apply bD_|apply bA_); exact BK129.out⟩, ⟨by (with_reducible repeat first|apply bN_|apply bD_|apply bA_); exact BK130.out⟩, ⟨by repeat (first | (with_reducible first | exact HB.out | apply b1_ | apply b2_ | apply b3_ | refine bS_ ?_ GE128.out | refine bS_ ?_ GE129.out | refine bS_ ?_ GE130.out) | exact HB.out)⟩⟩
       ·rw [if_neg c156] at H
        have c156b0 : (a0_0 == 2) = false := beq_eq_false_iff_ne.mpr c156
        have c156b1 : (a0_0 != 2) = true := bne_iff_ne.mpr c156
        (first | rw [c156b0] | (simp only [i64_w, i32_w]; rw [c156b0]) | skip)
        have H' := Aside0.mk H
        clear H
        try go_wp2
        have n0_ := Aside0.mk (Kd.R_drew HO_129001.out); have n1_ := Aside0.mk (blk_drew BK128.out); have n2_ := Aside0.mk (blk_drew BK129.out); have n3_ := Aside0.mk (blk_drew BK130.out); have n4_ := Aside0.mk (below_drew1 HB.out); clear HO_129001; clear BK128; clear BK129; clear BK130; clear HB
        have HO_129001 := n0_
        have BK128 := n1_; have BK129 := n2_; have BK130 := n3_; have HB := n4_; clear n0_ n1_ n2_ n3_ n4_
        refine start_ (n := 14) (S := fun w' => w'.cell? ⟨gb128, 0, none⟩ = some (.int .i64 a0_0) ∧ w'.cell? ⟨gb128, 1, none⟩ = some (.slice Ao58 x129001_27.length co58) ∧ w'.cell? ⟨gb128, 2, none⟩ = some (.int .u64 x129002_47) ∧ w'.cell? ⟨gb128, 3, none⟩ = some (.int .u64 x129003_47) ∧ w'.cell? ⟨gb128, 4, none⟩ = some (.int .u64 a0_4) ∧ w'.cell? ⟨gb128, 5, none⟩ = some (.int .u64 a0_5) ∧ w'.cell? ⟨gb128, 6, none⟩ = some (.int .u64 x129006_3) ∧ w'.cell? ⟨gb128, 7, none⟩ = some (.int .u64 a0_7) ∧ w'.cell? ⟨gb128, 8, none⟩ = some (.int .u64 a0_8) ∧ w'.cell? ⟨gb128, 9, none⟩ = some (.int .u64 x129009_3)) (ds := []) #[false, false, false, false, false, false, false, false, false, false, false, false, false, false] (by kernel_rfl) rfl rfl ⟨(blk_cell BK128.out 0).trans rfl, (blk_cell BK128.out 1).trans rfl, (blk_cell BK128.out 2).trans rfl, (blk_cell BK128.out 3).trans rfl, (blk_cell BK128.out 4).trans rfl, (blk_cell BK128.out 5).trans rfl, (blk_cell BK128.out 6).trans rfl, (blk_cell BK128.out 7).trans rfl, (blk_cell BK128.out 8).trans rfl, (blk_cell BK128.out 9).trans rfl⟩ (fun hHeld => ?_); refine with_tabW probe_Ack.tab22 probe_Ack.bits22 (fun HT_ HW_ => ?_)
        generalize wc.drew = w159 at HO_129001 BK128 BK129 BK130 HB hHeld ⊢
        refine pure_ (i := 0) (N := some 146) (v := ?_) (a' := ?_) #[true, false, false, false, false, false, false, false, false, false, false, false, false, false] rfl rfl (any_of HT_.out (by kernel_rfl)) (fun _ _ _ h => h) (Or.inl ⟨by rfl, ?_⟩) ?_ ?_
        rotate_left; focus (intro w'; go_simp; with_reducible rfl)
        rotate_left; focus (simp only [Act.put, sA_, s0_, s1_, i64_w, i32_w]; rfl)
        refine take_ (i := 1) (N := some 147) (v := ?_) (a' := ?_) #[true, true, false, false, false, false, false, false, false, false, false, false, false, false] rfl rfl (take_ofW HT_.out HW_.out (by kernel_rfl)) (fun _ _ _ h => h) (Or.inl ⟨by rfl, ?_⟩) hHeld ?_ ?_
        rotate_left; focus (rintro w' ⟨s0, s1, s2, s3, s4, s5, s6, s7, s8, s9⟩; go_simp; with_reducible rfl)
        rotate_left; focus (simp only [Act.put, sA_, s0_, s1_, i64_w, i32_w]; rfl)
        refine pure_ (i := 2) (N := some 148) (v := ?_) (a' := ?_) #[true, true, true, false, false, false, false, false, false, false, false, false, false, false] rfl rfl (any_of HT_.out (by kernel_rfl)) (fun _ _ _ h => h) (Or.inl ⟨by rfl, ?_⟩) ?_ ?_
        rotate_left; focus (intro w'; go_simp; with_reducible rfl)
        rotate_left; focus (simp only [Act.put, sA_, s0_, s1_, i64_w, i32_w]; rfl)
        refine pure_ (i := 3) (N := some 149) (v := ?_) (a' := ?_) #[true, true, true, true, false, false, false, false, false, false, false, false, false, false] rfl rfl (any_of HT_.out (by kernel_rfl)) (fun _ _ _ h => h) (Or.inl ⟨by rfl, ?_⟩) ?_ ?_
        rotate_left; focus (intro w'; go_simp; with_reducible rfl)
        rotate_left; focus (simp only [Act.put, sA_, s0_, s1_, i64_w, i32_w]; rfl)
        refine pure_ (i := 4) (N := some 150) (v := undef) (a' := ?_) #[true, true, true, true, true, false, false, false, false, false, false, false, false, false] rfl rfl (any_of HT_.out (by kernel_rfl)) (fun _ _ _ h => h) (Or.inr ⟨by rfl, rfl⟩) ?_ ?_
        rotate_left
        ·simp only [Act.put, sA_, s0_, s1_, i64_w, i32_w]
         rfl
        refine pure_ (i := 5) (N := some 151) (v := undef) (a' := ?_) #[true, true, true, true, true, true, false, false, false, false, false, false, false, false] rfl rfl (any_of HT_.out (by kernel_rfl)) (fun _ _ _ h => h) (Or.inr ⟨by rfl, rfl⟩) ?_ ?_
        rotate_left
        ·simp only [Act.put, sA_, s0_, s1_, i64_w, i32_w]
         rfl
        refine pure_ (i := 6) (N := some 152) (v := undef) (a' := ?_) #[true, true, true, true, true, true, true, false, false, false, false, false, false, false] rfl rfl (any_of HT_.out (by kernel_rfl)) (fun _ _ _ h => h) (Or.inr ⟨by rfl, rfl⟩) ?_ ?_
        rotate_left
        ·simp only [Act.put, sA_, s0_, s1_, i64_w, i32_w]
         rfl
        refine pure_ (i := 7) (N := some 153) (v := undef) (a' := ?_) #[true, true, true, true, true, true, true, true, false, false, false, false, false, false] rfl rfl (any_of HT_.out (by kernel_rfl)) (fun _ _ _ h => h) (Or.inr ⟨by rfl, rfl⟩) ?_ ?_
        rotate_left
        ·simp only [Act.put, sA_, s0_, s1_, i64_w, i32_w]
         rfl
        refine pure_ (i := 8) (N := some 154) (v := undef) (a' := ?_) #[true, true, true, true, true, true, true, true, true, false, false, false, false, false] rfl rfl (any_of HT_.out (by kernel_rfl)) (fun _ _ _ h => h) (Or.inr ⟨by rfl, rfl⟩) ?_ ?_
        rotate_left
        ·simp only [Act.put, sA_, s0_, s1_, i64_w, i32_w]
         rfl
        refine pure_ (i := 9) (N := some 155) (v := undef) (a' := ?_) #[true, true, true, true, true, true, true, true, true, true, false, false, false, false] rfl rfl (any_of HT_.out (by kernel_rfl)) (fun _ _ _ h => h) (Or.inr ⟨by rfl, rfl⟩) ?_ ?_
        rotate_left
        ·simp only [Act.put, sA_, s0_, s1_, i64_w, i32_w]
         rfl
        refine pure_ (i := 10) (N := some 156) (v := undef) (a' := ?_) #[true, true, true, true, true, true, true, true, true, true, true, false, false, false] rfl rfl (any_of HT_.out (by kernel_rfl)) (fun _ _ _ h => h) (Or.inr ⟨by rfl, rfl⟩) ?_ ?_
        rotate_left
        ·simp only [Act.put, sA_, s0_, s1_, i64_w, i32_w]
         rfl
        refine pure_ (i := 11) (N := some 157) (v := undef) (a' := ?_) #[true, true, true, true, true, true, true, true, true, true, true, true, false, false] rfl rfl (any_of HT_.out (by kernel_rfl)) (fun _ _ _ h => h) (Or.inr ⟨by rfl, rfl⟩) ?_ ?_
        rotate_left
        ·simp only [Act.put, sA_, s0_, s1_, i64_w, i32_w]
         rfl
        refine pure_ (i := 12) (N := some 158) (v := ?_) (a' := ?_) #[true, true, true, true, true, true, true, true, true, true, true, true, true, false] rfl rfl (any_of HT_.out (by kernel_rfl)) (fun _ _ _ h => h) (Or.inl ⟨by rfl, ?_⟩) ?_ ?_
        rotate_left; focus (intro w'; go_simp; with_reducible rfl)
        rotate_left; focus (simp only [Act.put, sA_, s0_, s1_, i64_w, i32_w]; rfl)
        refine pure_ (i := 13) (N := some 145) (v := ?_) (a' := ?_) #[true, true, true, true, true, true, true, true, true, true, true, true, true, true] rfl rfl (any_of HT_.out (by kernel_rfl)) (fun _ _ _ h => h) (Or.inl ⟨by rfl, ?_⟩) ?_ ?_
        rotate_left; focus (intro w'; go_simp; with_reducible rfl)
        rotate_left; focus (simp only [Act.put, sA_, s0_, s1_, i64_w, i32_w]; rfl)
        refine done_ (done_of HT_.out (by kernel_rfl)) ?_
        try go_wp2
        go_meet
        case rel => exact ⟨_, (false), (by first | rfl | (simp; done) | (simp [*]; done)), H', ⟨by have := HJ3.out; have := HJ22.out; have := HJ27.out; have := HJ39.out; have := HJ47.out; have := HJ53.out; have := HJ92.out; have := HJ123.out; have := HJ137.out; first | omega | exact Nat.le_refl _⟩, ⟨by (with_reducible repeat (first | apply Kd.R_alloc | apply Kd.R_drewN | apply Kd.R_drew)); exact HO_129001.out⟩, ⟨by (with_reducible repeat first|apply bN_|apply bD_|apply bA_); exact BK128.out⟩, ⟨by (with_reducible repeat first|apply bN_|apply bD_|apply bA_); exact BK129.out⟩, ⟨by (with_reducible repeat first|apply bN_|apply bD_|apply bA_); exact BK130.out⟩, ⟨by repeat (first | (with_reducible first | exact HB.out | apply b1_ | apply b2_ | apply b3_ | refine bS_ ?_ GE128.out | refine bS_ ?_ GE129.out | refine bS_ ?_ GE130.out) | exact HB.out)⟩⟩
      case rest =>
       (try clear hnb148); (try clear hnc148); (try clear hnb149); (try clear hnc149); (try clear hcz150_0); (try clear hfz150_0); (try clear hnb151); (try clear hnc151); (try clear hcz152_0); (try clear hfz152_0); (try clear hcz153_0); (try clear hfz153_0); (try clear hcz154_0); (try clear hfz154_0 hfz154_9)
       clear HC155; (try clear c1); (try clear c2); (try clear p2); (try clear c14); (try clear c15); (try clear c26); (try clear c29); (try clear c146); (try clear c148); (try clear c149); (try clear c151); (try clear c156); (try clear c156b0); (try clear c156b1); (try clear p2)
       (try clear HO_129001); (try clear BK128); (try clear BK129); (try clear BK130); (try clear HB)
       obtain ⟨kq, x145_154, rfl, HA, HJ154, HO_129001, BK128, BK129, BK130, HB⟩ := hcut
       cases kq with
       | zero => exact absurd HA.out (by simp [probe_Ack.j9])
       | succ kj154 =>
        have H := HA.out
        clear HA
        simp only [probe_Ack.j9] at H
        by_cases c160 : x145_154 = true
        ·subst c160
         have H1 : ((fix_Add.f a0_7 1).bind fun t149 => ((probe_Ack_1.f 2 t149 a1_0).bind fun t150 => (some (2, x129001_27, x129002_47, x129003_47, a0_4, a0_5, x129006_3, t149, a1_0, x129009_3)))) = some (r1, r2, r3, r4, r5, r6, r7, r8, r9, r10) := by rw [if_pos rfl] at H; exact H
         clear H
         have H := H1
         clear H1
         replace H := Option.bind_eq_some_iff.mp H
         obtain ⟨t149, A1610, H⟩ := H
         replace H : ((probe_Ack_1.f 2 t149 a1_0).bind fun t150 => (some (2, x129001_27, x129002_47, x129003_47, a0_4, a0_5, x129006_3, t149, a1_0, x129009_3))) = some (r1, r2, r3, r4, r5, r6, r7, r8, r9, r10) := H
         have A161 := Aside0.mk A1610
         clear A1610
         replace H := Option.bind_eq_some_iff.mp H
         obtain ⟨t150, A1620, H⟩ := H
         replace H : (some (2, x129001_27, x129002_47, x129003_47, a0_4, a0_5, x129006_3, t149, a1_0, x129009_3)) = some (r1, r2, r3, r4, r5, r6, r7, r8, r9, r10) := H
         have A162 := Aside0.mk A1620
         clear A1620
         simp only [Option.some.injEq, Prod.mk.injEq] at H
         obtain ⟨rfl, rfl, rfl, rfl, rfl, rfl, rfl, rfl, rfl, rfl⟩ := H
         have hnb163 := NB128_129.out; have hnc163 := NB129_128.out; have hnb164 := NB128_130.out; have hnc164 := NB130_128.out; have hcz165_0 := cells10_ BK128.out; have hfz165_0 := froz10_ BK128.out
         go_wp2_with (first | ((with_reducible refine gate_callee (f := 26) rfl ?_); refine goesL_ (some 162) rfl rfl Try.func26 (by kernel_rfl) rfl #[.int .u64 a0_7, .int .u64 1] rfl (by (try simp only [List.map_toArray, List.map_cons, List.map_nil]); first | done | rfl | (simp only [List.length_drop, List.length_take]; rfl)) ?_; (with_reducible refine (fix_Add.calls a0_7 1 t149 _ A161.out).mono ?_); rintro e w' ⟨rfl, ⟨nd, rfl⟩⟩; refine ⟨_, rfl, ?_⟩; (try (rw [drewN_self wc]; generalize hq_ : World.drewN wc _ = wc; have n0_ : Aside0 (Kd.R k52 52 wc w.heap.size (fun _ => True) (.slice Ao58 x129001_27.length co58) x129001_27) := ⟨by rw [← hq_]; exact (by (with_reducible repeat (first | apply Kd.R_alloc | apply Kd.R_drewN | apply Kd.R_drew)); exact HO_129001.out)⟩; have n1_ : Aside0 (wc.heap[gb128]? = some (.cells #[.int .i64 a0_0, .slice Ao58 x129001_27.length co58, .int .u64 x129002_47, .int .u64 x129003_47, .int .u64 a0_4, .int .u64 a0_5, .int .u64 x129006_3, .int .u64 a0_7, .int .u64 a0_8, .int .u64 x129009_3] 26 (0, 0))) := ⟨by rw [← hq_]; exact (by (with_reducible repeat first|apply bN_|apply bD_|apply bA_); exact BK128.out)⟩; have n2_ : Aside0 (wc.heap[gb129]? = some (.cells #[.int .u64 a1_0, .int .u64 a1_1, .int .u64 a1_2, .int .u64 a1_3, .int .u64 a1_4, .int .u64 a1_5, .int .u64 a1_6, .int .u64 a1_7, .bool a1_8, .bool a1_9] 28 (0, 0))) := ⟨by rw [← hq_]; exact (by (with_reducible repeat first|apply bN_|apply bD_|apply bA_); exact BK129.out)⟩; have n3_ : Aside0 (wc.heap[gb130]? = some (.cells #[.int .i64 0, .slice none 0 0, .int .u64 0, .int .u64 0, .int .u64 0, .int .u64 0, .int .u64 0, .int .u64 0, .int .u64 0, .int .u64 0] 26 (0, 0))) := ⟨by rw [← hq_]; exact (by (with_reducible repeat first|apply bN_|apply bD_|apply bA_); exact BK130.out)⟩; have n4_ : Aside0 (Below w.heap.size w wc) := ⟨by rw [← hq_]; exact (by repeat (first | (with_reducible first | exact HB.out | apply b1_ | apply b2_ | apply b3_ | refine bS_ ?_ GE128.out | refine bS_ ?_ GE129.out | refine bS_ ?_ GE130.out) | exact HB.out))⟩; clear HO_129001 BK128 BK129 BK130 HB hq_; have HO_129001 := n0_; have BK128 := n1_; have BK129 := n2_; have BK130 := n3_; have HB := n4_; clear n0_ n1_ n2_ n3_ n4_)); have hnb166 := NB129_130.out; have hnc166 := NB130_129.out; have hcz167_0 := cells10_ BK129.out; have hfz167_0 := froz9_ BK129.out; have hfz167_9 := blk_frozen BK129.out 9) | ((go_at_call 29); (first | (have hC_ := probe_Ack_1.C 2 t149 a1_0 gb129 gb128 _ ((blk_cell BK129.out 0).trans rfl) BK128.out (by simp) NB129_128.out; refine Calls.mono hC_ ?_) | refine Calls.mono (probe_Ack_1.C 2 t149 a1_0 gb129 gb128 _ ((blk_cell (bN_ BK129.out _) 0).trans rfl) (bN_ BK128.out _) (by simp) NB129_128.out) ?_); rintro e w' ⟨rfl, nd, rfl⟩; (try (rw [drewN_self wc]; generalize hq_ : World.drewN wc _ = wc; have n0_ : Aside0 (Kd.R k52 52 wc w.heap.size (fun _ => True) (.slice Ao58 x129001_27.length co58) x129001_27) := ⟨by rw [← hq_]; exact (by (with_reducible repeat (first | apply Kd.R_alloc | apply Kd.R_drewN | apply Kd.R_drew)); exact HO_129001.out)⟩; have n1_ : Aside0 (wc.heap[gb128]? = some (.cells #[.int .i64 a0_0, .slice Ao58 x129001_27.length co58, .int .u64 x129002_47, .int .u64 x129003_47, .int .u64 a0_4, .int .u64 a0_5, .int .u64 x129006_3, .int .u64 a0_7, .int .u64 a0_8, .int .u64 x129009_3] 26 (0, 0))) := ⟨by rw [← hq_]; exact (by (with_reducible repeat first|apply bN_|apply bD_|apply bA_); exact BK128.out)⟩; have n2_ : Aside0 (wc.heap[gb129]? = some (.cells #[.int .u64 a1_0, .int .u64 a1_1, .int .u64 a1_2, .int .u64 a1_3, .int .u64 a1_4, .int .u64 a1_5, .int .u64 a1_6, .int .u64 a1_7, .bool a1_8, .bool a1_9] 28 (0, 0))) := ⟨by rw [← hq_]; exact (by (with_reducible repeat first|apply bN_|apply bD_|apply bA_); exact BK129.out)⟩; have n3_ : Aside0 (wc.heap[gb130]? = some (.cells #[.int .i64 0, .slice none 0 0, .int .u64 0, .int .u64 0, .int .u64 0, .int .u64 0, .int .u64 0, .int .u64 0, .int .u64 0, .int .u64 0] 26 (0, 0))) := ⟨by rw [← hq_]; exact (by (with_reducible repeat first|apply bN_|apply bD_|apply bA_); exact BK130.out)⟩; have n4_ : Aside0 (Below w.heap.size w wc) := ⟨by rw [← hq_]; exact (by repeat (first | (with_reducible first | exact HB.out | apply b1_ | apply b2_ | apply b3_ | refine bS_ ?_ GE128.out | refine bS_ ?_ GE129.out | refine bS_ ?_ GE130.out) | exact HB.out))⟩; clear HO_129001 BK128 BK129 BK130 HB hq_; have HO_129001 := n0_; have BK128 := n1_; have BK129 := n2_; have BK130 := n3_; have HB := n4_; clear n0_ n1_ n2_ n3_ n4_)); have hcz168_0 := cells10_ BK128.out; have hfz168_0 := froz10_ BK128.out; have hcz169_0 := cells10_ BK130.out; have hfz169_0 := froz9_ BK130.out; have hfz169_9 := blk_frozen BK130.out 9))
         refine bodyPost_ret (results_cell_row rfl _ _ gb130 26 #[.int .i64 2, .slice Ao58 x129001_27.length co58, .int .u64 x129002_47, .int .u64 x129003_47, .int .u64 a0_4, .int .u64 a0_5, .int .u64 x129006_3, .int .u64 t149, .int .u64 a1_0, .int .u64 x129009_3] (0, 0) _ rfl (by (with_reducible repeat first|apply bN_|apply bD_|apply bA_); refine blk_put (cs := #[.int .i64 2, .slice Ao58 x129001_27.length co58, .int .u64 x129002_47, .int .u64 x129003_47, .int .u64 a0_4, .int .u64 a0_5, .int .u64 x129006_3, .int .u64 t149, .int .u64 a1_0, .int .u64 0]) ?_ 9 _ rfl; (with_reducible repeat first|apply bN_|apply bD_|apply bA_); refine blk_put (cs := #[.int .i64 2, .slice Ao58 x129001_27.length co58, .int .u64 x129002_47, .int .u64 x129003_47, .int .u64 a0_4, .int .u64 a0_5, .int .u64 x129006_3, .int .u64 t149, .int .u64 0, .int .u64 0]) ?_ 8 _ rfl; (with_reducible repeat first|apply bN_|apply bD_|apply bA_); refine blk_put (cs := #[.int .i64 2, .slice Ao58 x129001_27.length co58, .int .u64 x129002_47, .int .u64 x129003_47, .int .u64 a0_4, .int .u64 a0_5, .int .u64 x129006_3, .int .u64 0, .int .u64 0, .int .u64 0]) ?_ 7 _ rfl; (with_reducible repeat first|apply bN_|apply bD_|apply bA_); refine blk_put (cs := #[.int .i64 2, .slice Ao58 x129001_27.length co58, .int .u64 x129002_47, .int .u64 x129003_47, .int .u64 a0_4, .int .u64 a0_5, .int .u64 0, .int .u64 0, .int .u64 0, .int .u64 0]) ?_ 6 _ rfl; (with_reducible repeat first|apply bN_|apply bD_|apply bA_); refine blk_put (cs := #[.int .i64 2, .slice Ao58 x129001_27.length co58, .int .u64 x129002_47, .int .u64 x129003_47, .int .u64 a0_4, .int .u64 0, .int .u64 0, .int .u64 0, .int .u64 0, .int .u64 0]) ?_ 5 _ rfl; (with_reducible repeat first|apply bN_|apply bD_|apply bA_); refine blk_put (cs := #[.int .i64 2, .slice Ao58 x129001_27.length co58, .int .u64 x129002_47, .int .u64 x129003_47, .int .u64 0, .int .u64 0, .int .u64 0, .int .u64 0, .int .u64 0, .int .u64 0]) ?_ 4 _ rfl; (with_reducible repeat first|apply bN_|apply bD_|apply bA_); refine blk_put (cs := #[.int .i64 2, .slice Ao58 x129001_27.length co58, .int .u64 x129002_47, .int .u64 0, .int .u64 0, .int .u64 0, .int .u64 0, .int .u64 0, .int .u64 0, .int .u64 0]) ?_ 3 _ rfl; (with_reducible repeat first|apply bN_|apply bD_|apply bA_); refine blk_put (cs := #[.int .i64 2, .slice Ao58 x129001_27.length co58, .int .u64 0, .int .u64 0, .int .u64 0, .int .u64 0, .int .u64 0, .int .u64 0, .int .u64 0, .int .u64 0]) ?_ 2 _ rfl; (with_reducible repeat first|apply bN_|apply bD_|apply bA_); refine blk_put (cs := #[.int .i64 2, .slice none 0 0, .int .u64 0, .int .u64 0, .int .u64 0, .int .u64 0, .int .u64 0, .int .u64 0, .int .u64 0, .int .u64 0]) ?_ 1 _ rfl; (with_reducible repeat first|apply bN_|apply bD_|apply bA_); refine blk_put (cs := #[.int .i64 0, .slice none 0 0, .int .u64 0, .int .u64 0, .int .u64 0, .int .u64 0, .int .u64 0, .int .u64 0, .int .u64 0, .int .u64 0]) ?_ 0 _ rfl; (with_reducible repeat first|apply bN_|apply bD_|apply bA_); refine blk_far ?_ NB130_128.out _; (with_reducible repeat first|apply bN_|apply bD_|apply bA_); refine blk_far ?_ NB130_128.out _; (with_reducible repeat first|apply bN_|apply bD_|apply bA_); refine blk_far ?_ NB130_128.out _; (with_reducible repeat first|apply bN_|apply bD_|apply bA_); exact BK130.out) Try.underlying26 rfl (by kernel_rfl)) rfl ?_
         exact ⟨_, by first | rfl | (simp [errW_none, errW_some] <;> rfl) | (simp [*, errW_none, errW_some] <;> rfl), by (with_reducible repeat (first | apply Kd.R_alloc | apply Kd.R_drewN | apply Kd.R_drew)); exact Kd.R_mono (Kd.R_far (p := ⟨gb130, 9, none⟩) (Kd.R_far (p := ⟨gb130, 8, none⟩) (Kd.R_far (p := ⟨gb130, 7, none⟩) (Kd.R_far (p := ⟨gb130, 6, none⟩) (Kd.R_far (p := ⟨gb130, 5, none⟩) (Kd.R_far (p := ⟨gb130, 4, none⟩) (Kd.R_far (p := ⟨gb130, 3, none⟩) (Kd.R_far (p := ⟨gb130, 2, none⟩) (Kd.R_far (p := ⟨gb130, 1, none⟩) (Kd.R_far (p := ⟨gb130, 0, none⟩) (Kd.R_far (p := ⟨gb128, 8, none⟩) (Kd.R_far (p := ⟨gb128, 7, none⟩) (Kd.R_far (p := ⟨gb128, 0, none⟩) (Kd.R_types (Kd.R_types HO_129001.out BK128.out (by decide)) BK130.out (by decide)) (fun _ hk => hk.1.2) (.int .i64 2)) (fun _ hk => hk.1.2) (.int .u64 t149)) (fun _ hk => hk.1.2) (.int .u64 a1_0)) (fun _ hk => hk.2) (.int .i64 2)) (fun _ hk => hk.2) (.slice Ao58 x129001_27.length co58)) (fun _ hk => hk.2) (.int .u64 x129002_47)) (fun _ hk => hk.2) (.int .u64 x129003_47)) (fun _ hk => hk.2) (.int .u64 a0_4)) (fun _ hk => hk.2) (.int .u64 a0_5)) (fun _ hk => hk.2) (.int .u64 x129006_3)) (fun _ hk => hk.2) (.int .u64 t149)) (fun _ hk => hk.2) (.int .u64 a1_0)) (fun _ hk => hk.2) (.int .u64 x129009_3)) (fun _ hk => trivial), by repeat (first | (with_reducible first | exact HB.out | apply b1_ | apply b2_ | apply b3_ | refine bS_ ?_ GE128.out | refine bS_ ?_ GE129.out | refine bS_ ?_ GE130.out) | exact HB.out)⟩
        ·replace c160 := Bool.eq_false_iff.mpr c160
         subst c160
         have H1 : (if a0_0 = 3 then ((fix_Add.f a0_8 200).bind fun t151 => (if a1_0 ≥ t151 then ((probe_Ack_1.f 2 2 a1_0).bind fun t152 => (some (2, x129001_27, x129002_47, x129003_47, a0_4, a0_5, x129006_3, 2, a1_0, x129009_3))) else (some (a0_0, x129001_27, x129002_47, x129003_47, a0_4, a0_5, x129006_3, a0_7, a0_8, x129009_3)))) else (some (a0_0, x129001_27, x129002_47, x129003_47, a0_4, a0_5, x129006_3, a0_7, a0_8, x129009_3))) = some (r1, r2, r3, r4, r5, r6, r7, r8, r9, r10) := by rw [if_neg (show ¬ (false = true) by decide)] at H; exact H
         clear H
         have H := H1
         clear H1
         by_cases c170 : a0_0 = 3
         ·rw [if_pos c170] at H
          have c170b0 : (a0_0 == 3) = true := beq_iff_eq.mpr c170
          have c170b1 : (a0_0 != 3) = false := bne_eq_false_iff_eq.mpr c170
          clear c170
          replace H := Option.bind_eq_some_iff.mp H
          obtain ⟨t151, A1710, H⟩ := H
          replace H : (if a1_0 ≥ t151 then ((probe_Ack_1.f 2 2 a1_0).bind fun t152 => (some (2, x129001_27, x129002_47, x129003_47, a0_4, a0_5, x129006_3, 2, a1_0, x129009_3))) else (some (a0_0, x129001_27, x129002_47, x129003_47, a0_4, a0_5, x129006_3, a0_7, a0_8, x129009_3))) = some (r1, r2, r3, r4, r5, r6, r7, r8, r9, r10) := H
          have A171 := Aside0.mk A1710
          clear A1710
          by_cases c172 : a1_0 ≥ t151
          ·rw [if_pos c172] at H
           have c172b0 : decide (t151 ≤ a1_0) = true := decide_eq_true c172
           clear c172
           replace H := Option.bind_eq_some_iff.mp H
           obtain ⟨t152, A1730, H⟩ := H
           replace H : (some (2, x129001_27, x129002_47, x129003_47, a0_4, a0_5, x129006_3, 2, a1_0, x129009_3)) = some (r1, r2, r3, r4, r5, r6, r7, r8, r9, r10) := H
           have A173 := Aside0.mk A1730
           clear A1730
           simp only [Option.some.injEq, Prod.mk.injEq] at H
           obtain ⟨rfl, rfl, rfl, rfl, rfl, rfl, rfl, rfl, rfl, rfl⟩ := H
           try go_wp2
           have n0_ := Aside0.mk (Kd.R_drew HO_129001.out); have n1_ := Aside0.mk (blk_drew BK128.out); have n2_ := Aside0.mk (blk_drew BK129.out); have n3_ := Aside0.mk (blk_drew BK130.out); have n4_ := Aside0.mk (below_drew1 HB.out); clear HO_129001; clear BK128; clear BK129; clear BK130; clear HB
           have HO_129001 := n0_
           have BK128 := n1_; have BK129 := n2_; have BK130 := n3_; have HB := n4_; clear n0_ n1_ n2_ n3_ n4_
           refine start_ (n := 12) (S := fun w' => w'.cell? ⟨gb128, 0, none⟩ = some (.int .i64 a0_0) ∧ w'.cell? ⟨gb128, 1, none⟩ = some (.slice Ao58 x129001_27.length co58) ∧ w'.cell? ⟨gb128, 2, none⟩ = some (.int .u64 x129002_47) ∧ w'.cell? ⟨gb128, 3, none⟩ = some (.int .u64 x129003_47) ∧ w'.cell? ⟨gb128, 4, none⟩ = some (.int .u64 a0_4) ∧ w'.cell? ⟨gb128, 5, none⟩ = some (.int .u64 a0_5) ∧ w'.cell? ⟨gb128, 6, none⟩ = some (.int .u64 x129006_3) ∧ w'.cell? ⟨gb128, 7, none⟩ = some (.int .u64 a0_7) ∧ w'.cell? ⟨gb128, 8, none⟩ = some (.int .u64 a0_8) ∧ w'.cell? ⟨gb128, 9, none⟩ = some (.int .u64 x129009_3) ∧ w'.cell? ⟨gb129, 0, none⟩ = some (.int .u64 a1_0) ∧ w'.cell? ⟨gb129, 1, none⟩ = some (.int .u64 a1_1) ∧ w'.cell? ⟨gb129, 2, none⟩ = some (.int .u64 a1_2) ∧ w'.cell? ⟨gb129, 3, none⟩ = some (.int .u64 a1_3) ∧ w'.cell? ⟨gb129, 4, none⟩ = some (.int .u64 a1_4) ∧ w'.cell? ⟨gb129, 5, none⟩ = some (.int .u64 a1_5) ∧ w'.cell? ⟨gb129, 6, none⟩ = some (.int .u64 a1_6) ∧ w'.cell? ⟨gb129, 7, none⟩ = some (.int .u64 a1_7) ∧ w'.cell? ⟨gb129, 8, none⟩ = some (.bool a1_8) ∧ w'.cell? ⟨gb129, 9, none⟩ = some (.bool a1_9)) (ds := []) #[false, false, false, false, false, false, false, false, false, false, false, false] (by kernel_rfl) rfl rfl ⟨(blk_cell BK128.out 0).trans rfl, (blk_cell BK128.out 1).trans rfl, (blk_cell BK128.out 2).trans rfl, (blk_cell BK128.out 3).trans rfl, (blk_cell BK128.out 4).trans rfl, (blk_cell BK128.out 5).trans rfl, (blk_cell BK128.out 6).trans rfl, (blk_cell BK128.out 7).trans rfl, (blk_cell BK128.out 8).trans rfl, (blk_cell BK128.out 9).trans rfl, (blk_cell BK129.out 0).trans rfl, (blk_cell BK129.out 1).trans rfl, (blk_cell BK129.out 2).trans rfl, (blk_cell BK129.out 3).trans rfl, (blk_cell BK129.out 4).trans rfl, (blk_cell BK129.out 5).trans rfl, (blk_cell BK129.out 6).trans rfl, (blk_cell BK129.out 7).trans rfl, (blk_cell BK129.out 8).trans rfl, (blk_cell BK129.out 9).trans rfl⟩ (fun hHeld => ?_); refine with_tabW probe_Ack.tab24 probe_Ack.bits24 (fun HT_ HW_ => ?_)
           generalize wc.drew = w174 at HO_129001 BK128 BK129 BK130 HB hHeld ⊢
           refine pure_ (i := 0) (N := some 165) (v := ?_) (a' := ?_) #[true, false, false, false, false, false, false, false, false, false, false, false] rfl rfl (any_of HT_.out (by kernel_rfl)) (fun _ _ _ h => h) (Or.inl ⟨by rfl, ?_⟩) ?_ ?_
           rotate_left; focus (intro w'; go_simp; with_reducible rfl)
           rotate_left; focus (simp only [Act.put, sA_, s0_, s1_, i64_w, i32_w]; rfl)
           refine take_ (i := 1) (N := some 166) (v := ?_) (a' := ?_) #[true, true, false, false, false, false, false, false, false, false, false, false] rfl rfl (take_ofW HT_.out HW_.out (by kernel_rfl)) (fun _ _ _ h => h) (Or.inl ⟨by rfl, ?_⟩) hHeld ?_ ?_
           rotate_left; focus (rintro w' ⟨s0, s1, s2, s3, s4, s5, s6, s7, s8, s9, s10, s11, s12, s13, s14, s15, s16, s17, s18, s19⟩; go_simp; with_reducible rfl)
           rotate_left; focus (simp only [Act.put, sA_, s0_, s1_, i64_w, i32_w]; rfl)
           refine pure_ (i := 2) (N := some 167) (v := ?_) (a' := ?_) #[true, true, true, false, false, false, false, false, false, false, false, false] rfl rfl (any_of HT_.out (by kernel_rfl)) (fun _ _ _ h => h) (Or.inl ⟨by rfl, ?_⟩) ?_ ?_
           rotate_left; focus (intro w'; go_simp; with_reducible rfl)
           rotate_left; focus (simp only [Act.put, sA_, s0_, s1_, i64_w, i32_w]; rfl)
           refine pure_ (i := 3) (N := some 168) (v := ?_) (a' := ?_) #[true, true, true, true, false, false, false, false, false, false, false, false] rfl rfl (any_of HT_.out (by kernel_rfl)) (fun _ _ _ h => h) (Or.inl ⟨by rfl, ?_⟩) ?_ ?_
           rotate_left; focus (intro w'; go_simp; with_reducible rfl)
           rotate_left; focus (simp only [Act.put, sA_, s0_, s1_, i64_w, i32_w]; rfl)
           refine pure_ (i := 4) (N := some 169) (v := ?_) (a' := ?_) #[true, true, true, true, true, false, false, false, false, false, false, false] rfl rfl (any_of HT_.out (by kernel_rfl)) (fun _ _ _ h => h) (Or.inl ⟨by rfl, ?_⟩) ?_ ?_
           rotate_left; focus (intro w'; go_simp; with_reducible rfl)
           rotate_left; focus (simp only [Act.put, sA_, s0_, s1_, i64_w, i32_w]; rfl)
           refine pure_ (i := 6) (N := some 171) (v := ?_) (a' := ?_) #[true, true, true, true, true, false, true, false, false, false, false, false] rfl rfl (any_of HT_.out (by kernel_rfl)) (fun _ _ _ h => h) (Or.inl ⟨by rfl, ?_⟩) ?_ ?_
           rotate_left; focus (intro w'; go_simp; with_reducible rfl)
           rotate_left; focus (simp only [Act.put, sA_, s0_, s1_, i64_w, i32_w]; rfl)
           refine take_ (i := 5) (N := some 170) (v := ?_) (a' := ?_) #[true, true, true, true, true, true, true, false, false, false, false, false] rfl rfl (take_ofW HT_.out HW_.out (by kernel_rfl)) (fun _ _ _ h => h) (Or.inl ⟨by rfl, ?_⟩) hHeld ?_ ?_
           rotate_left; focus (rintro w' ⟨s0, s1, s2, s3, s4, s5, s6, s7, s8, s9, s10, s11, s12, s13, s14, s15, s16, s17, s18, s19⟩; go_simp; with_reducible rfl)
           rotate_left; focus (simp only [Act.put, sA_, s0_, s1_, i64_w, i32_w]; rfl)
           refine take_ (i := 7) (N := some 172) (v := ?_) (a' := ?_) #[true, true, true, true, true, true, true, true, false, false, false, false] rfl rfl (take_ofW HT_.out HW_.out (by kernel_rfl)) (fun _ _ _ h => h) (Or.inl ⟨by rfl, ?_⟩) hHeld ?_ ?_
           rotate_left; focus (rintro w' ⟨s0, s1, s2, s3, s4, s5, s6, s7, s8, s9, s10, s11, s12, s13, s14, s15, s16, s17, s18, s19⟩; go_simp; with_reducible rfl)
           rotate_left; focus (simp only [Act.put, sA_, s0_, s1_, i64_w, i32_w]; rfl)
           refine one_ (i := 8) (N := some 173) #[true, true, true, true, true, true, true, true, true, false, false, false] rfl rfl (one_of HT_.out (by kernel_rfl)) (by decide) (fun K hK => ?_)
           refine goes_ Try.func26 (by kernel_rfl) rfl #[.int .u64 a0_8, .int .u64 200] (by rfl) rfl rfl (by (try simp only [List.map_toArray, List.map_cons, List.map_nil]); first | done | rfl | (simp only [List.length_drop, List.length_take]; rfl)) ?_
           with_reducible refine (fix_Add.calls a0_8 200 t151 _ A171.out).mono ?_
           rintro e w' ⟨rfl, ⟨nd, rfl⟩⟩
           refine ⟨_, rfl, ?_⟩
           refine hK.out _ _ ⟨(blk_cell BK128.out 0).trans rfl, (blk_cell BK128.out 1).trans rfl, (blk_cell BK128.out 2).trans rfl, (blk_cell BK128.out 3).trans rfl, (blk_cell BK128.out 4).trans rfl, (blk_cell BK128.out 5).trans rfl, (blk_cell BK128.out 6).trans rfl, (blk_cell BK128.out 7).trans rfl, (blk_cell BK128.out 8).trans rfl, (blk_cell BK128.out 9).trans rfl, (blk_cell BK129.out 0).trans rfl, (blk_cell BK129.out 1).trans rfl, (blk_cell BK129.out 2).trans rfl, (blk_cell BK129.out 3).trans rfl, (blk_cell BK129.out 4).trans rfl, (blk_cell BK129.out 5).trans rfl, (blk_cell BK129.out 6).trans rfl, (blk_cell BK129.out 7).trans rfl, (blk_cell BK129.out 8).trans rfl, (blk_cell BK129.out 9).trans rfl⟩ (fun hHeld => ?_)
           clear hK K
           refine norm_ (a' := ?_) ?_ ?_
           rotate_left
           ·show Act.put _ (some 173) _ = _
            simp only [Act.put, sA_, s0_, s1_, i64_w, i32_w]
            rfl
           refine pure_ (i := 9) (N := some 174) (v := ?_) (a' := ?_) #[true, true, true, true, true, true, true, true, true, true, false, false] rfl rfl (any_of HT_.out (by kernel_rfl)) (fun _ _ _ h => h) (Or.inl ⟨by rfl, ?_⟩) ?_ ?_
           rotate_left; focus (intro w'; go_simp; with_reducible rfl)
           rotate_left; focus (simp only [Act.put, sA_, s0_, s1_, i64_w, i32_w]; rfl)
           refine pure_ (i := 10) (N := some 175) (v := ?_) (a' := ?_) #[true, true, true, true, true, true, true, true, true, true, true, false] rfl rfl (any_of HT_.out (by kernel_rfl)) (fun _ _ _ h => h) (Or.inl ⟨by rfl, ?_⟩) ?_ ?_
           rotate_left; focus (intro w'; go_simp; with_reducible rfl)
           rotate_left; focus (simp only [Act.put, sA_, s0_, s1_, i64_w, i32_w]; rfl)
           refine pure_ (i := 11) (N := some 164) (v := ?_) (a' := ?_) #[true, true, true, true, true, true, true, true, true, true, true, true] rfl rfl (any_of HT_.out (by kernel_rfl)) (fun _ _ _ h => h) (Or.inl ⟨by rfl, ?_⟩) ?_ ?_
           rotate_left; focus (intro w'; go_simp; with_reducible rfl)
           rotate_left; focus (simp only [Act.put, sA_, s0_, s1_, i64_w, i32_w]; rfl)
           refine done_ (done_of HT_.out (by kernel_rfl)) ?_
           have hnb175 := NB129_128.out; have hnc175 := NB128_129.out; have hnb176 := NB129_130.out; have hnc176 := NB130_129.out; have hcz177_0 := cells10_ BK129.out; have hfz177_0 := froz10_ BK129.out
           try go_wp2_with (first | ((go_at_call 29); (first | (have hC_ := probe_Ack_1.C 2 2 a1_0 gb129 gb128 _ ((blk_cell BK129.out 0).trans rfl) BK128.out (by simp) NB129_128.out; refine Calls.mono hC_ ?_) | refine Calls.mono (probe_Ack_1.C 2 2 a1_0 gb129 gb128 _ ((blk_cell (bN_ BK129.out _) 0).trans rfl) (bN_ BK128.out _) (by simp) NB129_128.out) ?_); rintro e w' ⟨rfl, nd, rfl⟩; (try (rw [drewN_self w174]; generalize hq_ : World.drewN w174 _ = w174; have n0_ : Aside0 (Kd.R k52 52 w174 w.heap.size (fun _ => True) (.slice Ao58 x129001_27.length co58) x129001_27) := ⟨by rw [← hq_]; exact (by (with_reducible repeat (first | apply Kd.R_alloc | apply Kd.R_drewN | apply Kd.R_drew)); exact HO_129001.out)⟩; have n1_ : Aside0 (w174.heap[gb128]? = some (.cells #[.int .i64 a0_0, .slice Ao58 x129001_27.length co58, .int .u64 x129002_47, .int .u64 x129003_47, .int .u64 a0_4, .int .u64 a0_5, .int .u64 x129006_3, .int .u64 a0_7, .int .u64 a0_8, .int .u64 x129009_3] 26 (0, 0))) := ⟨by rw [← hq_]; exact (by (with_reducible repeat first|apply bN_|apply bD_|apply bA_); exact BK128.out)⟩; have n2_ : Aside0 (w174.heap[gb129]? = some (.cells #[.int .u64 a1_0, .int .u64 a1_1, .int .u64 a1_2, .int .u64 a1_3, .int .u64 a1_4, .int .u64 a1_5, .int .u64 a1_6, .int .u64 a1_7, .bool a1_8, .bool a1_9] 28 (0, 0))) := ⟨by rw [← hq_]; exact (by (with_reducible repeat first|apply bN_|apply bD_|apply bA_); exact BK129.out)⟩; have n3_ : Aside0 (w174.heap[gb130]? = some (.cells #[.int .i64 0, .slice none 0 0, .int .u64 0, .int .u64 0, .int .u64 0, .int .u64 0, .int .u64 0, .int .u64 0, .int .u64 0, .int .u64 0] 26 (0, 0))) := ⟨by rw [← hq_]; exact (by (with_reducible repeat first|apply bN_|apply bD_|apply bA_); exact BK130.out)⟩; have n4_ : Aside0 (Below w.heap.size w w174) := ⟨by rw [← hq_]; exact (by repeat (first | (with_reducible first | exact HB.out | apply b1_ | apply b2_ | apply b3_ | refine bS_ ?_ GE128.out | refine bS_ ?_ GE129.out | refine bS_ ?_ GE130.out) | exact HB.out))⟩; clear HO_129001 BK128 BK129 BK130 HB hq_; have HO_129001 := n0_; have BK128 := n1_; have BK129 := n2_; have BK130 := n3_; have HB := n4_; clear n0_ n1_ n2_ n3_ n4_)); have hnb178 := NB128_130.out; have hnc178 := NB130_128.out; have hcz179_0 := cells10_ BK128.out; have hfz179_0 := froz10_ BK128.out; have hcz180_0 := cells10_ BK130.out; have hfz180_0 := froz9_ BK130.out; have hfz180_9 := blk_frozen BK130.out 9))
           refine bodyPost_ret (results_cell_row rfl _ _ gb130 26 #[.int .i64 2, .slice Ao58 x129001_27.length co58, .int .u64 x129002_47, .int .u64 x129003_47, .int .u64 a0_4, .int .u64 a0_5, .int .u64 x129006_3, .int .u64 2, .int .u64 a1_0, .int .u64 x129009_3] (0, 0) _ rfl (by (with_reducible repeat first|apply bN_|apply bD_|apply bA_); refine blk_put (cs := #[.int .i64 2, .slice Ao58 x129001_27.length co58, .int .u64 x129002_47, .int .u64 x129003_47, .int .u64 a0_4, .int .u64 a0_5, .int .u64 x129006_3, .int .u64 2, .int .u64 a1_0, .int .u64 0]) ?_ 9 _ rfl; (with_reducible repeat first|apply bN_|apply bD_|apply bA_); refine blk_put (cs := #[.int .i64 2, .slice Ao58 x129001_27.length co58, .int .u64 x129002_47, .int .u64 x129003_47, .int .u64 a0_4, .int .u64 a0_5, .int .u64 x129006_3, .int .u64 2, .int .u64 0, .int .u64 0]) ?_ 8 _ rfl; (with_reducible repeat first|apply bN_|apply bD_|apply bA_); refine blk_put (cs := #[.int .i64 2, .slice Ao58 x129001_27.length co58, .int .u64 x129002_47, .int .u64 x129003_47, .int .u64 a0_4, .int .u64 a0_5, .int .u64 x129006_3, .int .u64 0, .int .u64 0, .int .u64 0]) ?_ 7 _ rfl; (with_reducible repeat first|apply bN_|apply bD_|apply bA_); refine blk_put (cs := #[.int .i64 2, .slice Ao58 x129001_27.length co58, .int .u64 x129002_47, .int .u64 x129003_47, .int .u64 a0_4, .int .u64 a0_5, .int .u64 0, .int .u64 0, .int .u64 0, .int .u64 0]) ?_ 6 _ rfl; (with_reducible repeat first|apply bN_|apply bD_|apply bA_); refine blk_put (cs := #[.int .i64 2, .slice Ao58 x129001_27.length co58, .int .u64 x129002_47, .int .u64 x129003_47, .int .u64 a0_4, .int .u64 0, .int .u64 0, .int .u64 0, .int .u64 0, .int .u64 0]) ?_ 5 _ rfl; (with_reducible repeat first|apply bN_|apply bD_|apply bA_); refine blk_put (cs := #[.int .i64 2, .slice Ao58 x129001_27.length co58, .int .u64 x129002_47, .int .u64 x129003_47, .int .u64 0, .int .u64 0, .int .u64 0, .int .u64 0, .int .u64 0, .int .u64 0]) ?_ 4 _ rfl; (with_reducible repeat first|apply bN_|apply bD_|apply bA_); refine blk_put (cs := #[.int .i64 2, .slice Ao58 x129001_27.length co58, .int .u64 x129002_47, .int .u64 0, .int .u64 0, .int .u64 0, .int .u64 0, .int .u64 0, .int .u64 0, .int .u64 0]) ?_ 3 _ rfl; (with_reducible repeat first|apply bN_|apply bD_|apply bA_); refine blk_put (cs := #[.int .i64 2, .slice Ao58 x129001_27.length co58, .int .u64 0, .int .u64 0, .int .u64 0, .int .u64 0, .int .u64 0, .int .u64 0, .int .u64 0, .int .u64 0]) ?_ 2 _ rfl; (with_reducible repeat first|apply bN_|apply bD_|apply bA_); refine blk_put (cs := #[.int .i64 2, .slice none 0 0, .int .u64 0, .int .u64 0, .int .u64 0, .int .u64 0, .int .u64 0, .int .u64 0, .int .u64 0, .int .u64 0]) ?_ 1 _ rfl; (with_reducible repeat first|apply bN_|apply bD_|apply bA_); refine blk_put (cs := #[.int .i64 0, .slice none 0 0, .int .u64 0, .int .u64 0, .int .u64 0, .int .u64 0, .int .u64 0, .int .u64 0, .int .u64 0, .int .u64 0]) ?_ 0 _ rfl; (with_reducible repeat first|apply bN_|apply bD_|apply bA_); refine blk_far ?_ NB130_128.out _; (with_reducible repeat first|apply bN_|apply bD_|apply bA_); refine blk_far ?_ NB130_128.out _; (with_reducible repeat first|apply bN_|apply bD_|apply bA_); refine blk_far ?_ NB130_128.out _; (with_reducible repeat first|apply bN_|apply bD_|apply bA_); exact BK130.out) Try.underlying26 rfl (by kernel_rfl)) rfl ?_
           exact ⟨_, by first | rfl | (simp [errW_none, errW_some] <;> rfl) | (simp [*, errW_none, errW_some] <;> rfl), by (with_reducible repeat (first | apply Kd.R_alloc | apply Kd.R_drewN | apply Kd.R_drew)); exact Kd.R_mono (Kd.R_far (p := ⟨gb130, 9, none⟩) (Kd.R_far (p := ⟨gb130, 8, none⟩) (Kd.R_far (p := ⟨gb130, 7, none⟩) (Kd.R_far (p := ⟨gb130, 6, none⟩) (Kd.R_far (p := ⟨gb130, 5, none⟩) (Kd.R_far (p := ⟨gb130, 4, none⟩) (Kd.R_far (p := ⟨gb130, 3, none⟩) (Kd.R_far (p := ⟨gb130, 2, none⟩) (Kd.R_far (p := ⟨gb130, 1, none⟩) (Kd.R_far (p := ⟨gb130, 0, none⟩) (Kd.R_far (p := ⟨gb128, 8, none⟩) (Kd.R_far (p := ⟨gb128, 7, none⟩) (Kd.R_far (p := ⟨gb128, 0, none⟩) (Kd.R_types (Kd.R_types HO_129001.out BK128.out (by decide)) BK130.out (by decide)) (fun _ hk => hk.1.2) (.int .i64 2)) (fun _ hk => hk.1.2) (.int .u64 2)) (fun _ hk => hk.1.2) (.int .u64 a1_0)) (fun _ hk => hk.2) (.int .i64 2)) (fun _ hk => hk.2) (.slice Ao58 x129001_27.length co58)) (fun _ hk => hk.2) (.int .u64 x129002_47)) (fun _ hk => hk.2) (.int .u64 x129003_47)) (fun _ hk => hk.2) (.int .u64 a0_4)) (fun _ hk => hk.2) (.int .u64 a0_5)) (fun _ hk => hk.2) (.int .u64 x129006_3)) (fun _ hk => hk.2) (.int .u64 2)) (fun _ hk => hk.2) (.int .u64 a1_0)) (fun _ hk => hk.2) (.int .u64 x129009_3)) (fun _ hk => trivial), by repeat (first | (with_reducible first | exact HB.out | apply b1_ | apply b2_ | apply b3_ | refine bS_ ?_ GE128.out | refine bS_ ?_ GE129.out | refine bS_ ?_ GE130.out) | exact HB.out)⟩
          ·rw [if_neg c172] at H
           have c172b0 : decide (t151 ≤ a1_0) = false := decide_eq_false c172
           clear c172
           simp only [Option.some.injEq, Prod.mk.injEq] at H
           obtain ⟨rfl, rfl, rfl, rfl, rfl, rfl, rfl, rfl, rfl, rfl⟩ := H
           try go_wp2
           have n0_ := Aside0.mk (Kd.R_drew HO_129001.out); have n1_ := Aside0.mk (blk_drew BK128.out); have n2_ := Aside0.mk (blk_drew BK129.out); have n3_ := Aside0.mk (blk_drew BK130.out); have n4_ := Aside0.mk (below_drew1 HB.out); clear HO_129001; clear BK128; clear BK129; clear BK130; clear HB
           have HO_129001 := n0_
           have BK128 := n1_; have BK129 := n2_; have BK130 := n3_; have HB := n4_; clear n0_ n1_ n2_ n3_ n4_
           refine start_ (n := 12) (S := fun w' => w'.cell? ⟨gb128, 0, none⟩ = some (.int .i64 a0_0) ∧ w'.cell? ⟨gb128, 1, none⟩ = some (.slice Ao58 x129001_27.length co58) ∧ w'.cell? ⟨gb128, 2, none⟩ = some (.int .u64 x129002_47) ∧ w'.cell? ⟨gb128, 3, none⟩ = some (.int .u64 x129003_47) ∧ w'.cell? ⟨gb128, 4, none⟩ = some (.int .u64 a0_4) ∧ w'.cell? ⟨gb128, 5, none⟩ = some (.int .u64 a0_5) ∧ w'.cell? ⟨gb128, 6, none⟩ = some (.int .u64 x129006_3) ∧ w'.cell? ⟨gb128, 7, none⟩ = some (.int .u64 a0_7) ∧ w'.cell? ⟨gb128, 8, none⟩ = some (.int .u64 a0_8) ∧ w'.cell? ⟨gb128, 9, none⟩ = some (.int .u64 x129009_3) ∧ w'.cell? ⟨gb129, 0, none⟩ = some (.int .u64 a1_0) ∧ w'.cell? ⟨gb129, 1, none⟩ = some (.int .u64 a1_1) ∧ w'.cell? ⟨gb129, 2, none⟩ = some (.int .u64 a1_2) ∧ w'.cell? ⟨gb129, 3, none⟩ = some (.int .u64 a1_3) ∧ w'.cell? ⟨gb129, 4, none⟩ = some (.int .u64 a1_4) ∧ w'.cell? ⟨gb129, 5, none⟩ = some (.int .u64 a1_5) ∧ w'.cell? ⟨gb129, 6, none⟩ = some (.int .u64 a1_6) ∧ w'.cell? ⟨gb129, 7, none⟩ = some (.int .u64 a1_7) ∧ w'.cell? ⟨gb129, 8, none⟩ = some (.bool a1_8) ∧ w'.cell? ⟨gb129, 9, none⟩ = some (.bool a1_9)) (ds := []) #[false, false, false, false, false, false, false, false, false, false, false, false] (by kernel_rfl) rfl rfl ⟨(blk_cell BK128.out 0).trans rfl, (blk_cell BK128.out 1).trans rfl, (blk_cell BK128.out 2).trans rfl, (blk_cell BK128.out 3).trans rfl, (blk_cell BK128.out 4).trans rfl, (blk_cell BK128.out 5).trans rfl, (blk_cell BK128.out 6).trans rfl, (blk_cell BK128.out 7).trans rfl, (blk_cell BK128.out 8).trans rfl, (blk_cell BK128.out 9).trans rfl, (blk_cell BK129.out 0).trans rfl, (blk_cell BK129.out 1).trans rfl, (blk_cell BK129.out 2).trans rfl, (blk_cell BK129.out 3).trans rfl, (blk_cell BK129.out 4).trans rfl, (blk_cell BK129.out 5).trans rfl, (blk_cell BK129.out 6).trans rfl, (blk_cell BK129.out 7).trans rfl, (blk_cell BK129.out 8).trans rfl, (blk_cell BK129.out 9).trans rfl⟩ (fun hHeld => ?_); refine with_tabW probe_Ack.tab24 probe_Ack.bits24 (fun HT_ HW_ => ?_)
           generalize wc.drew = w181 at HO_129001 BK128 BK129 BK130 HB hHeld ⊢
           refine pure_ (i := 0) (N := some 165) (v := ?_) (a' := ?_) #[true, false, false, false, false, false, false, false, false, false, false, false] rfl rfl (any_of HT_.out (by kernel_rfl)) (fun _ _ _ h => h) (Or.inl ⟨by rfl, ?_⟩) ?_ ?_
           rotate_left; focus (intro w'; go_simp; with_reducible rfl)
           rotate_left; focus (simp only [Act.put, sA_, s0_, s1_, i64_w, i32_w]; rfl)
           refine take_ (i := 1) (N := some 166) (v := ?_) (a' := ?_) #[true, true, false, false, false, false, false, false, false, false, false, false] rfl rfl (take_ofW HT_.out HW_.out (by kernel_rfl)) (fun _ _ _ h => h) (Or.inl ⟨by rfl, ?_⟩) hHeld ?_ ?_
           rotate_left; focus (rintro w' ⟨s0, s1, s2, s3, s4, s5, s6, s7, s8, s9, s10, s11, s12, s13, s14, s15, s16, s17, s18, s19⟩; go_simp; with_reducible rfl)
           rotate_left; focus (simp only [Act.put, sA_, s0_, s1_, i64_w, i32_w]; rfl)
           refine pure_ (i := 2) (N := some 167) (v := ?_) (a' := ?_) #[true, true, true, false, false, false, false, false, false, false, false, false] rfl rfl (any_of HT_.out (by kernel_rfl)) (fun _ _ _ h => h) (Or.inl ⟨by rfl, ?_⟩) ?_ ?_
           rotate_left; focus (intro w'; go_simp; with_reducible rfl)
           rotate_left; focus (simp only [Act.put, sA_, s0_, s1_, i64_w, i32_w]; rfl)
           refine pure_ (i := 3) (N := some 168) (v := ?_) (a' := ?_) #[true, true, true, true, false, false, false, false, false, false, false, false] rfl rfl (any_of HT_.out (by kernel_rfl)) (fun _ _ _ h => h) (Or.inl ⟨by rfl, ?_⟩) ?_ ?_
           rotate_left; focus (intro w'; go_simp; with_reducible rfl)
           rotate_left; focus (simp only [Act.put, sA_, s0_, s1_, i64_w, i32_w]; rfl)
           refine pure_ (i := 4) (N := some 169) (v := ?_) (a' := ?_) #[true, true, true, true, true, false, false, false, false, false, false, false] rfl rfl (any_of HT_.out (by kernel_rfl)) (fun _ _ _ h => h) (Or.inl ⟨by rfl, ?_⟩) ?_ ?_
           rotate_left; focus (intro w'; go_simp; with_reducible rfl)
           rotate_left; focus (simp only [Act.put, sA_, s0_, s1_, i64_w, i32_w]; rfl)
           refine pure_ (i := 6) (N := some 171) (v := ?_) (a' := ?_) #[true, true, true, true, true, false, true, false, false, false, false, false] rfl rfl (any_of HT_.out (by kernel_rfl)) (fun _ _ _ h => h) (Or.inl ⟨by rfl, ?_⟩) ?_ ?_
           rotate_left; focus (intro w'; go_simp; with_reducible rfl)
           rotate_left; focus (simp only [Act.put, sA_, s0_, s1_, i64_w, i32_w]; rfl)
           refine take_ (i := 5) (N := some 170) (v := ?_) (a' := ?_) #[true, true, true, true, true, true, true, false, false, false, false, false] rfl rfl (take_ofW HT_.out HW_.out (by kernel_rfl)) (fun _ _ _ h => h) (Or.inl ⟨by rfl, ?_⟩) hHeld ?_ ?_
           rotate_left; focus (rintro w' ⟨s0, s1, s2, s3, s4, s5, s6, s7, s8, s9, s10, s11, s12, s13, s14, s15, s16, s17, s18, s19⟩; go_simp; with_reducible rfl)
           rotate_left; focus (simp only [Act.put, sA_, s0_, s1_, i64_w, i32_w]; rfl)
           refine take_ (i := 7) (N := some 172) (v := ?_) (a' := ?_) #[true, true, true, true, true, true, true, true, false, false, false, false] rfl rfl (take_ofW HT_.out HW_.out (by kernel_rfl)) (fun _ _ _ h => h) (Or.inl ⟨by rfl, ?_⟩) hHeld ?_ ?_
           rotate_left; focus (rintro w' ⟨s0, s1, s2, s3, s4, s5, s6, s7, s8, s9, s10, s11, s12, s13, s14, s15, s16, s17, s18, s19⟩; go_simp; with_reducible rfl)
           rotate_left; focus (simp only [Act.put, sA_, s0_, s1_, i64_w, i32_w]; rfl)
           refine one_ (i := 8) (N := some 173) #[true, true, true, true, true, true, true, true, true, false, false, false] rfl rfl (one_of HT_.out (by kernel_rfl)) (by decide) (fun K hK => ?_)
           refine goes_ Try.func26 (by kernel_rfl) rfl #[.int .u64 a0_8, .int .u64 200] (by rfl) rfl rfl (by (try simp only [List.map_toArray, List.map_cons, List.map_nil]); first | done | rfl | (simp only [List.length_drop, List.length_take]; rfl)) ?_
           with_reducible refine (fix_Add.calls a0_8 200 t151 _ A171.out).mono ?_
           rintro e w' ⟨rfl, ⟨nd, rfl⟩⟩
           refine ⟨_, rfl, ?_⟩
           refine hK.out _ _ ⟨(blk_cell BK128.out 0).trans rfl, (blk_cell BK128.out 1).trans rfl, (blk_cell BK128.out 2).trans rfl, (blk_cell BK128.out 3).trans rfl, (blk_cell BK128.out 4).trans rfl, (blk_cell BK128.out 5).trans rfl, (blk_cell BK128.out 6).trans rfl, (blk_cell BK128.out 7).trans rfl, (blk_cell BK128.out 8).trans rfl, (blk_cell BK128.out 9).trans rfl, (blk_cell BK129.out 0).trans rfl, (blk_cell BK129.out 1).trans rfl, (blk_cell BK129.out 2).trans rfl, (blk_cell BK129.out 3).trans rfl, (blk_cell BK129.out 4).trans rfl, (blk_cell BK129.out 5).trans rfl, (blk_cell BK129.out 6).trans rfl, (blk_cell BK129.out 7).trans rfl, (blk_cell BK129.out 8).trans rfl, (blk_cell BK129.out 9).trans rfl⟩ (fun hHeld => ?_)
           clear hK K
           refine norm_ (a' := ?_) ?_ ?_
           rotate_left
           ·show Act.put _ (some 173) _ = _
            simp only [Act.put, sA_, s0_, s1_, i64_w, i32_w]
            rfl
           refine pure_ (i := 9) (N := some 174) (v := ?_) (a' := ?_) #[true, true, true, true, true, true, true, true, true, true, false, false] rfl rfl (any_of HT_.out (by kernel_rfl)) (fun _ _ _ h => h) (Or.inl ⟨by rfl, ?_⟩) ?_ ?_
           rotate_left; focus (intro w'; go_simp; with_reducible rfl)
           rotate_left; focus (simp only [Act.put, sA_, s0_, s1_, i64_w, i32_w]; rfl)
           refine pure_ (i := 10) (N := some 175) (v := ?_) (a' := ?_) #[true, true, true, true, true, true, true, true, true, true, true, false] rfl rfl (any_of HT_.out (by kernel_rfl)) (fun _ _ _ h => h) (Or.inl ⟨by rfl, ?_⟩) ?_ ?_
           rotate_left; focus (intro w'; go_simp; with_reducible rfl)
           rotate_left; focus (simp only [Act.put, sA_, s0_, s1_, i64_w, i32_w]; rfl)
           refine pure_ (i := 11) (N := some 164) (v := ?_) (a' := ?_) #[true, true, true, true, true, true, true, true, true, true, true, true] rfl rfl (any_of HT_.out (by kernel_rfl)) (fun _ _ _ h => h) (Or.inl ⟨by rfl, ?_⟩) ?_ ?_
           rotate_left; focus (intro w'; go_simp; with_reducible rfl)
           rotate_left; focus (simp only [Act.put, sA_, s0_, s1_, i64_w, i32_w]; rfl)
           refine done_ (done_of HT_.out (by kernel_rfl)) ?_
           have hnb182 := NB128_129.out; have hnc182 := NB129_128.out; have hnb183 := NB128_130.out; have hnc183 := NB130_128.out; have hcz184_0 := cells10_ BK128.out; have hfz184_0 := froz10_ BK128.out; have hnb185 := NB130_129.out; have hnc185 := NB129_130.out; have hcz186_0 := cells10_ BK130.out; have hfz186_0 := froz10_ BK130.out
           try go_wp2
           refine bodyPost_ret (results_cell_row rfl _ _ gb130 26 #[.int .i64 a0_0, .slice Ao58 x129001_27.length co58, .int .u64 x129002_47, .int .u64 x129003_47, .int .u64 a0_4, .int .u64 a0_5, .int .u64 x129006_3, .int .u64 a0_7, .int .u64 a0_8, .int .u64 x129009_3] (0, 0) _ rfl (by (with_reducible repeat first|apply bN_|apply bD_|apply bA_); refine blk_put (cs := #[.int .i64 a0_0, .slice Ao58 x129001_27.length co58, .int .u64 x129002_47, .int .u64 x129003_47, .int .u64 a0_4, .int .u64 a0_5, .int .u64 x129006_3, .int .u64 a0_7, .int .u64 a0_8, .int .u64 0]) ?_ 9 _ rfl; (with_reducible repeat first|apply bN_|apply bD_|apply bA_); refine blk_put (cs := #[.int .i64 a0_0, .slice Ao58 x129001_27.length co58, .int .u64 x129002_47, .int .u64 x129003_47, .int .u64 a0_4, .int .u64 a0_5, .int .u64 x129006_3, .int .u64 a0_7, .int .u64 0, .int .u64 0]) ?_ 8 _ rfl; (with_reducible repeat first|apply bN_|apply bD_|apply bA_); refine blk_put (cs := #[.int .i64 a0_0, .slice Ao58 x129001_27.length co58, .int .u64 x129002_47, .int .u64 x129003_47, .int .u64 a0_4, .int .u64 a0_5, .int .u64 x129006_3, .int .u64 0, .int .u64 0, .int .u64 0]) ?_ 7 _ rfl; (with_reducible repeat first|apply bN_|apply bD_|apply bA_); refine blk_put (cs := #[.int .i64 a0_0, .slice Ao58 x129001_27.length co58, .int .u64 x129002_47, .int .u64 x129003_47, .int .u64 a0_4, .int .u64 a0_5, .int .u64 0, .int .u64 0, .int .u64 0, .int .u64 0]) ?_ 6 _ rfl; (with_reducible repeat first|apply bN_|apply bD_|apply bA_); refine blk_put (cs := #[.int .i64 a0_0, .slice Ao58 x129001_27.length co58, .int .u64 x129002_47, .int .u64 x129003_47, .int .u64 a0_4, .int .u64 0, .int .u64 0, .int .u64 0, .int .u64 0, .int .u64 0]) ?_ 5 _ rfl; (with_reducible repeat first|apply bN_|apply bD_|apply bA_); refine blk_put (cs := #[.int .i64 a0_0, .slice Ao58 x129001_27.length co58, .int .u64 x129002_47, .int .u64 x129003_47, .int .u64 0, .int .u64 0, .int .u64 0, .int .u64 0, .int .u64 0, .int .u64 0]) ?_ 4 _ rfl; (with_reducible repeat first|apply bN_|apply bD_|apply bA_); refine blk_put (cs := #[.int .i64 a0_0, .slice Ao58 x129001_27.length co58, .int .u64 x129002_47, .int .u64 0, .int .u64 0, .int .u64 0, .int .u64 0, .int .u64 0, .int .u64 0, .int .u64 0]) ?_ 3 _ rfl; (with_reducible repeat first|apply bN_|apply bD_|apply bA_); refine blk_put (cs := #[.int .i64 a0_0, .slice Ao58 x129001_27.length co58, .int .u64 0, .int .u64 0, .int .u64 0, .int .u64 0, .int .u64 0, .int .u64 0, .int .u64 0, .int .u64 0]) ?_ 2 _ rfl; (with_reducible repeat first|apply bN_|apply bD_|apply bA_); refine blk_put (cs := #[.int .i64 a0_0, .slice none 0 0, .int .u64 0, .int .u64 0, .int .u64 0, .int .u64 0, .int .u64 0, .int .u64 0, .int .u64 0, .int .u64 0]) ?_ 1 _ rfl; (with_reducible repeat first|apply bN_|apply bD_|apply bA_); refine blk_put (cs := #[.int .i64 0, .slice none 0 0, .int .u64 0, .int .u64 0, .int .u64 0, .int .u64 0, .int .u64 0, .int .u64 0, .int .u64 0, .int .u64 0]) ?_ 0 _ rfl; (with_reducible repeat first|apply bN_|apply bD_|apply bA_); exact BK130.out) Try.underlying26 rfl (by kernel_rfl)) rfl ?_
           exact ⟨_, by first | rfl | (simp [errW_none, errW_some] <;> rfl) | (simp [*, errW_none, errW_some] <;> rfl), by (with_reducible repeat (first | apply Kd.R_alloc | apply Kd.R_drewN | apply Kd.R_drew)); exact Kd.R_mono (Kd.R_far (p := ⟨gb130, 9, none⟩) (Kd.R_far (p := ⟨gb130, 8, none⟩) (Kd.R_far (p := ⟨gb130, 7, none⟩) (Kd.R_far (p := ⟨gb130, 6, none⟩) (Kd.R_far (p := ⟨gb130, 5, none⟩) (Kd.R_far (p := ⟨gb130, 4, none⟩) (Kd.R_far (p := ⟨gb130, 3, none⟩) (Kd.R_far (p := ⟨gb130, 2, none⟩) (Kd.R_far (p := ⟨gb130, 1, none⟩) (Kd.R_far (p := ⟨gb130, 0, none⟩) (Kd.R_types HO_129001.out BK130.out (by decide)) (fun _ hk => hk.2) (.int .i64 a0_0)) (fun _ hk => hk.2) (.slice Ao58 x129001_27.length co58)) (fun _ hk => hk.2) (.int .u64 x129002_47)) (fun _ hk => hk.2) (.int .u64 x129003_47)) (fun _ hk => hk.2) (.int .u64 a0_4)) (fun _ hk => hk.2) (.int .u64 a0_5)) (fun _ hk => hk.2) (.int .u64 x129006_3)) (fun _ hk => hk.2) (.int .u64 a0_7)) (fun _ hk => hk.2) (.int .u64 a0_8)) (fun _ hk => hk.2) (.int .u64 x129009_3)) (fun _ hk => trivial), by repeat (first | (with_reducible first | exact HB.out | apply b1_ | apply b2_ | apply b3_ | refine bS_ ?_ GE128.out | refine bS_ ?_ GE129.out | refine bS_ ?_ GE130.out) | exact HB.out)⟩
         ·rw [if_neg c170] at H
          have c170b0 : (a0_0 == 3) = false := beq_eq_false_iff_ne.mpr c170
          have c170b1 : (a0_0 != 3) = true := bne_iff_ne.mpr c170
          simp only [Option.some.injEq, Prod.mk.injEq] at H
          obtain ⟨rfl, rfl, rfl, rfl, rfl, rfl, rfl, rfl, rfl, rfl⟩ := H
          try go_wp2
          have n0_ := Aside0.mk (Kd.R_drew HO_129001.out); have n1_ := Aside0.mk (blk_drew BK128.out); have n2_ := Aside0.mk (blk_drew BK129.out); have n3_ := Aside0.mk (blk_drew BK130.out); have n4_ := Aside0.mk (below_drew1 HB.out); clear HO_129001; clear BK128; clear BK129; clear BK130; clear HB
          have HO_129001 := n0_
          have BK128 := n1_; have BK129 := n2_; have BK130 := n3_; have HB := n4_; clear n0_ n1_ n2_ n3_ n4_
          refine start_ (n := 12) (S := fun w' => w'.cell? ⟨gb128, 0, none⟩ = some (.int .i64 a0_0) ∧ w'.cell? ⟨gb128, 1, none⟩ = some (.slice Ao58 x129001_27.length co58) ∧ w'.cell? ⟨gb128, 2, none⟩ = some (.int .u64 x129002_47) ∧ w'.cell? ⟨gb128, 3, none⟩ = some (.int .u64 x129003_47) ∧ w'.cell? ⟨gb128, 4, none⟩ = some (.int .u64 a0_4) ∧ w'.cell? ⟨gb128, 5, none⟩ = some (.int .u64 a0_5) ∧ w'.cell? ⟨gb128, 6, none⟩ = some (.int .u64 x129006_3) ∧ w'.cell? ⟨gb128, 7, none⟩ = some (.int .u64 a0_7) ∧ w'.cell? ⟨gb128, 8, none⟩ = some (.int .u64 a0_8) ∧ w'.cell? ⟨gb128, 9, none⟩ = some (.int .u64 x129009_3)) (ds := []) #[false, false, false, false, false, false, false, false, false, false, false, false] (by kernel_rfl) rfl rfl ⟨(blk_cell BK128.out 0).trans rfl, (blk_cell BK128.out 1).trans rfl, (blk_cell BK128.out 2).trans rfl, (blk_cell BK128.out 3).trans rfl, (blk_cell BK128.out 4).trans rfl, (blk_cell BK128.out 5).trans rfl, (blk_cell BK128.out 6).trans rfl, (blk_cell BK128.out 7).trans rfl, (blk_cell BK128.out 8).trans rfl, (blk_cell BK128.out 9).trans rfl⟩ (fun hHeld => ?_); refine with_tabW probe_Ack.tab24 probe_Ack.bits24 (fun HT_ HW_ => ?_)
          generalize wc.drew = w187 at HO_129001 BK128 BK129 BK130 HB hHeld ⊢
          refine pure_ (i := 0) (N := some 165) (v := ?_) (a' := ?_) #[true, false, false, false, false, false, false, false, false, false, false, false] rfl rfl (any_of HT_.out (by kernel_rfl)) (fun _ _ _ h => h) (Or.inl ⟨by rfl, ?_⟩) ?_ ?_
          rotate_left; focus (intro w'; go_simp; with_reducible rfl)
          rotate_left; focus (simp only [Act.put, sA_, s0_, s1_, i64_w, i32_w]; rfl)
          refine take_ (i := 1) (N := some 166) (v := ?_) (a' := ?_) #[true, true, false, false, false, false, false, false, false, false, false, false] rfl rfl (take_ofW HT_.out HW_.out (by kernel_rfl)) (fun _ _ _ h => h) (Or.inl ⟨by rfl, ?_⟩) hHeld ?_ ?_
          rotate_left; focus (rintro w' ⟨s0, s1, s2, s3, s4, s5, s6, s7, s8, s9⟩; go_simp; with_reducible rfl)
          rotate_left; focus (simp only [Act.put, sA_, s0_, s1_, i64_w, i32_w]; rfl)
          refine pure_ (i := 2) (N := some 167) (v := ?_) (a' := ?_) #[true, true, true, false, false, false, false, false, false, false, false, false] rfl rfl (any_of HT_.out (by kernel_rfl)) (fun _ _ _ h => h) (Or.inl ⟨by rfl, ?_⟩) ?_ ?_
          rotate_left; focus (intro w'; go_simp; with_reducible rfl)
          rotate_left; focus (simp only [Act.put, sA_, s0_, s1_, i64_w, i32_w]; rfl)
          refine pure_ (i := 3) (N := some 168) (v := ?_) (a' := ?_) #[true, true, true, true, false, false, false, false, false, false, false, false] rfl rfl (any_of HT_.out (by kernel_rfl)) (fun _ _ _ h => h) (Or.inl ⟨by rfl, ?_⟩) ?_ ?_
          rotate_left; focus (intro w'; go_simp; with_reducible rfl)
          rotate_left; focus (simp only [Act.put, sA_, s0_, s1_, i64_w, i32_w]; rfl)
          refine pure_ (i := 4) (N := some 169) (v := undef) (a' := ?_) #[true, true, true, true, true, false, false, false, false, false, false, false] rfl rfl (any_of HT_.out (by kernel_rfl)) (fun _ _ _ h => h) (Or.inr ⟨by rfl, rfl⟩) ?_ ?_
          rotate_left
          ·simp only [Act.put, sA_, s0_, s1_, i64_w, i32_w]
           rfl
          refine pure_ (i := 5) (N := some 170) (v := undef) (a' := ?_) #[true, true, true, true, true, true, false, false, false, false, false, false] rfl rfl (any_of HT_.out (by kernel_rfl)) (fun _ _ _ h => h) (Or.inr ⟨by rfl, rfl⟩) ?_ ?_
          rotate_left
          ·simp only [Act.put, sA_, s0_, s1_, i64_w, i32_w]
           rfl
          refine pure_ (i := 6) (N := some 171) (v := undef) (a' := ?_) #[true, true, true, true, true, true, true, false, false, false, false, false] rfl rfl (any_of HT_.out (by kernel_rfl)) (fun _ _ _ h => h) (Or.inr ⟨by rfl, rfl⟩) ?_ ?_
          rotate_left
          ·simp only [Act.put, sA_, s0_, s1_, i64_w, i32_w]
           rfl
          refine pure_ (i := 7) (N := some 172) (v := undef) (a' := ?_) #[true, true, true, true, true, true, true, true, false, false, false, false] rfl rfl (any_of HT_.out (by kernel_rfl)) (fun _ _ _ h => h) (Or.inr ⟨by rfl, rfl⟩) ?_ ?_
          rotate_left
          ·simp only [Act.put, sA_, s0_, s1_, i64_w, i32_w]
           rfl
          refine pure_ (i := 8) (N := some 173) (v := undef) (a' := ?_) #[true, true, true, true, true, true, true, true, true, false, false, false] rfl rfl (any_of HT_.out (by kernel_rfl)) (fun _ _ _ h => h) (Or.inr ⟨by rfl, rfl⟩) ?_ ?_
          rotate_left
          ·simp only [Act.put, sA_, s0_, s1_, i64_w, i32_w]
           rfl
          refine pure_ (i := 9) (N := some 174) (v := undef) (a' := ?_) #[true, true, true, true, true, true, true, true, true, true, false, false] rfl rfl (any_of HT_.out (by kernel_rfl)) (fun _ _ _ h => h) (Or.inr ⟨by rfl, rfl⟩) ?_ ?_
          rotate_left
          ·simp only [Act.put, sA_, s0_, s1_, i64_w, i32_w]
           rfl
          refine pure_ (i := 10) (N := some 175) (v := ?_) (a' := ?_) #[true, true, true, true, true, true, true, true, true, true, true, false] rfl rfl (any_of HT_.out (by kernel_rfl)) (fun _ _ _ h => h) (Or.inl ⟨by rfl, ?_⟩) ?_ ?_
          rotate_left; focus (intro w'; go_simp; with_reducible rfl)
          rotate_left; focus (simp only [Act.put, sA_, s0_, s1_, i64_w, i32_w]; rfl)
          refine pure_ (i := 11) (N := some 164) (v := ?_) (a' := ?_) #[true, true, true, true, true, true, true, true, true, true, true, true] rfl rfl (any_of HT_.out (by kernel_rfl)) (fun _ _ _ h => h) (Or.inl ⟨by rfl, ?_⟩) ?_ ?_
          rotate_left; focus (intro w'; go_simp; with_reducible rfl)
          rotate_left; focus (simp only [Act.put, sA_, s0_, s1_, i64_w, i32_w]; rfl)
          refine done_ (done_of HT_.out (by kernel_rfl)) ?_
          have hnb188 := NB128_129.out; have hnc188 := NB129_128.out; have hnb189 := NB128_130.out; have hnc189 := NB130_128.out; have hcz190_0 := cells10_ BK128.out; have hfz190_0 := froz10_ BK128.out; have hnb191 := NB130_129.out; have hnc191 := NB129_130.out; have hcz192_0 := cells10_ BK130.out; have hfz192_0 := froz10_ BK130.out
          try go_wp2
          refine bodyPost_ret (results_cell_row rfl _ _ gb130 26 #[.int .i64 a0_0, .slice Ao58 x129001_27.length co58, .int .u64 x129002_47, .int .u64 x129003_47, .int .u64 a0_4, .int .u64 a0_5, .int .u64 x129006_3, .int .u64 a0_7, .int .u64 a0_8, .int .u64 x129009_3] (0, 0) _ rfl (by (with_reducible repeat first|apply bN_|apply bD_|apply bA_); refine blk_put (cs := #[.int .i64 a0_0, .slice Ao58 x129001_27.length co58, .int .u64 x129002_47, .int .u64 x129003_47, .int .u64 a0_4, .int .u64 a0_5, .int .u64 x129006_3, .int .u64 a0_7, .int .u64 a0_8, .int .u64 0]) ?_ 9 _ rfl; (with_reducible repeat first|apply bN_|apply bD_|apply bA_); refine blk_put (cs := #[.int .i64 a0_0, .slice Ao58 x129001_27.length co58, .int .u64 x129002_47, .int .u64 x129003_47, .int .u64 a0_4, .int .u64 a0_5, .int .u64 x129006_3, .int .u64 a0_7, .int .u64 0, .int .u64 0]) ?_ 8 _ rfl; (with_reducible repeat first|apply bN_|apply bD_|apply bA_); refine blk_put (cs := #[.int .i64 a0_0, .slice Ao58 x129001_27.length co58, .int .u64 x129002_47, .int .u64 x129003_47, .int .u64 a0_4, .int .u64 a0_5, .int .u64 x129006_3, .int .u64 0, .int .u64 0, .int .u64 0]) ?_ 7 _ rfl; (with_reducible repeat first|apply bN_|apply bD_|apply bA_); refine blk_put (cs := #[.int .i64 a0_0, .slice Ao58 x129001_27.length co58, .int .u64 x129002_47, .int .u64 x129003_47, .int .u64 a0_4, .int .u64 a0_5, .int .u64 0, .int .u64 0, .int .u64 0, .int .u64 0]) ?_ 6 _ rfl; (with_reducible repeat first|apply bN_|apply bD_|apply bA_); refine blk_put (cs := #[.int .i64 a0_0, .slice Ao58 x129001_27.length co58, .int .u64 x129002_47, .int .u64 x129003_47, .int .u64 a0_4, .int .u64 0, .int .u64 0, .int .u64 0, .int .u64 0, .int .u64 0]) ?_ 5 _ rfl; (with_reducible repeat first|apply bN_|apply bD_|apply bA_); refine blk_put (cs := #[.int .i64 a0_0, .slice Ao58 x129001_27.length co58, .int .u64 x129002_47, .int .u64 x129003_47, .int .u64 0, .int .u64 0, .int .u64 0, .int .u64 0, .int .u64 0, .int .u64 0]) ?_ 4 _ rfl; (with_reducible repeat first|apply bN_|apply bD_|apply bA_); refine blk_put (cs := #[.int .i64 a0_0, .slice Ao58 x129001_27.length co58, .int .u64 x129002_47, .int .u64 0, .int .u64 0, .int .u64 0, .int .u64 0, .int .u64 0, .int .u64 0, .int .u64 0]) ?_ 3 _ rfl; (with_reducible repeat first|apply bN_|apply bD_|apply bA_); refine blk_put (cs := #[.int .i64 a0_0, .slice Ao58 x129001_27.length co58, .int .u64 0, .int .u64 0, .int .u64 0, .int .u64 0, .int .u64 0, .int .u64 0, .int .u64 0, .int .u64 0]) ?_ 2 _ rfl; (with_reducible repeat first|apply bN_|apply bD_|apply bA_); refine blk_put (cs := #[.int .i64 a0_0, .slice none 0 0, .int .u64 0, .int .u64 0, .int .u64 0, .int .u64 0, .int .u64 0, .int .u64 0, .int .u64 0, .int .u64 0]) ?_ 1 _ rfl; (with_reducible repeat first|apply bN_|apply bD_|apply bA_); refine blk_put (cs := #[.int .i64 0, .slice none 0 0, .int .u64 0, .int .u64 0, .int .u64 0, .int .u64 0, .int .u64 0, .int .u64 0, .int .u64 0, .int .u64 0]) ?_ 0 _ rfl; (with_reducible repeat first|apply bN_|apply bD_|apply bA_); exact BK130.out) Try.underlying26 rfl (by kernel_rfl)) rfl ?_
          exact ⟨_, by first | rfl | (simp [errW_none, errW_some] <;> rfl) | (simp [*, errW_none, errW_some] <;> rfl), by (with_reducible repeat (first | apply Kd.R_alloc | apply Kd.R_drewN | apply Kd.R_drew)); exact Kd.R_mono (Kd.R_far (p := ⟨gb130, 9, none⟩) (Kd.R_far (p := ⟨gb130, 8, none⟩) (Kd.R_far (p := ⟨gb130, 7, none⟩) (Kd.R_far (p := ⟨gb130, 6, none⟩) (Kd.R_far (p := ⟨gb130, 5, none⟩) (Kd.R_far (p := ⟨gb130, 4, none⟩) (Kd.R_far (p := ⟨gb130, 3, none⟩) (Kd.R_far (p := ⟨gb130, 2, none⟩) (Kd.R_far (p := ⟨gb130, 1, none⟩) (Kd.R_far (p := ⟨gb130, 0, none⟩) (Kd.R_types HO_129001.out BK130.out (by decide)) (fun _ hk => hk.2) (.int .i64 a0_0)) (fun _ hk => hk.2) (.slice Ao58 x129001_27.length co58)) (fun _ hk => hk.2) (.int .u64 x129002_47)) (fun _ hk => hk.2) (.int .u64 x129003_47)) (fun _ hk => hk.2) (.int .u64 a0_4)) (fun _ hk => hk.2) (.int .u64 a0_5)) (fun _ hk => hk.2) (.int .u64 x129006_3)) (fun _ hk => hk.2) (.int .u64 a0_7)) (fun _ hk => hk.2) (.int .u64 a0_8)) (fun _ hk => hk.2) (.int .u64 x129009_3)) (fun _ hk => trivial), by repeat (first | (with_reducible first | exact HB.out | apply b1_ | apply b2_ | apply b3_ | refine bS_ ?_ GE128.out | refine bS_ ?_ GE129.out | refine bS_ ?_ GE130.out) | exact HB.out)⟩


set_option maxHeartbeats 8000000 in
set_option maxRecDepth 100000 in
theorem probe_Ack.rest4 (k : Nat) (a0_0 : Int) (A0_1 : Option Addr) (c0_1 : Nat) (l0_1 : List S52) (a0_2 a0_3 a0_4 a0_5 a0_6 a0_7 a0_8 a0_9 a1_0 a1_1 a1_2 a1_3 a1_4 a1_5 a1_6 a1_7 : Int) (a1_8 a1_9 : Bool) (r1 : Int) (r2 : List S52) (r3 r4 r5 r6 r7 r8 r9 r10 : Int) (w : World) (hu26 :  Try.prog.underlying 26 = some (TypeDesc.struct #[{ name := "State", type := 3, offset := 0, embedded := false, tag := "", pkgPath := "", byteOffset := 0 }, { name := "Rates", type := 23, offset := 1, embedded := false, tag := "", pkgPath := "", byteOffset := 8 }, { name := "Min", type := 24, offset := 2, embedded := false, tag := "", pkgPath := "", byteOffset := 32 }, { name := "MinAt", type := 24, offset := 3, embedded := false, tag := "", pkgPath := "", byteOffset := 40 }, { name := "Full", type := 24, offset := 4, embedded := false, tag := "", pkgPath := "", byteOffset := 48 }, { name := "Still", type := 24, offset := 5, embedded := false, tag := "", pkgPath := "", byteOffset := 56 }, { name := "Rounds", type := 24, offset := 6, embedded := false, tag := "", pkgPath := "", byteOffset := 64 }, { name := "Phase", type := 24, offset := 7, embedded := false, tag := "", pkgPath := "", byteOffset := 72 }, { name := "Since", type := 24, offset := 8, embedded := false, tag := "", pkgPath := "", byteOffset := 80 }, { name := "High", type := 24, offset := 9, embedded := false, tag := "", pkgPath := "", byteOffset := 88 }])) (hu28 :  Try.prog.underlying 28 = some (TypeDesc.struct #[{ name := "Now", type := 24, offset := 0, embedded := false, tag := "", pkgPath := "", byteOffset := 0 }, { name := "Bytes", type := 24, offset := 1, embedded := false, tag := "", pkgPath := "", byteOffset := 8 }, { name := "At", type := 24, offset := 2, embedded := false, tag := "", pkgPath := "", byteOffset := 16 }, { name := "Number", type := 24, offset := 3, embedded := false, tag := "", pkgPath := "", byteOffset := 24 }, { name := "Next", type := 24, offset := 4, embedded := false, tag := "", pkgPath := "", byteOffset := 32 }, { name := "Took", type := 24, offset := 5, embedded := false, tag := "", pkgPath := "", byteOffset := 40 }, { name := "Flight", type := 24, offset := 6, embedded := false, tag := "", pkgPath := "", byteOffset := 48 }, { name := "Rate", type := 24, offset := 7, embedded := false, tag := "", pkgPath := "", byteOffset := 56 }, { name := "Limited", type := 4, offset := 8, embedded := false, tag := "", pkgPath := "", byteOffset := 64 }, { name := "Round", type := 4, offset := 9, embedded := false, tag := "", pkgPath := "", byteOffset := 65 }])) (hu52 :  Try.prog.underlying 52 = some (TypeDesc.struct #[{ name := "At", type := 24, offset := 0, embedded := false, tag := "", pkgPath := "", byteOffset := 0 }, { name := "Value", type := 24, offset := 1, embedded := false, tag := "", pkgPath := "", byteOffset := 8 }])) (hmf :  ∀ (fn : Fn) (first cap : Array Value) (w : World), Sem.run Try.prog (Instr.makeFunc fn first cap) w = Result.ok (Value.func fn first cap) w) (gb128 : Nat) (GE128 : Aside0 (w.heap.size ≤ gb128)) (gb129 : Nat) (GE129 : Aside0 (w.heap.size ≤ gb129)) (NB128_129 : Aside0 (gb128 ≠ gb129)) (NB129_128 : Aside0 (gb129 ≠ gb128)) (gb130 : Nat) (GE130 : Aside0 (w.heap.size ≤ gb130)) (NB128_130 : Aside0 (gb128 ≠ gb130)) (NB130_128 : Aside0 (gb130 ≠ gb128)) (NB129_130 : Aside0 (gb129 ≠ gb130)) (NB130_129 : Aside0 (gb130 ≠ gb129)) (x129006_3 x129009_3 : Int) (kj3 : Nat) (HJ3 : Aside0 (kj3 + 1 ≤ k)) (kj22 : Nat) (HJ22 : Aside0 (kj22 + 1 ≤ kj3)) (x129001_27 : List S52) (u129001 : Value) (kj27 : Nat) (HJ27 : Aside0 (kj27 + 1 ≤ kj22)) (t141 : Int) (kj39 : Nat) (HJ39 : Aside0 (kj39 + 1 ≤ kj27)) (wc : World) (u8 u9 u10 u11 u12 u13 u14 u15 u16 u17 u18 u19 u20 u21 u22 u23 u24 u25 u26 u27 u28 u29 u30 u31 u32 u33 u34 u35 u36 u37 u38 u39 u40 u41 u42 u43 u44 u45 u46 u47 u48 u49 u50 u51 u52 u53 u54 u55 u56 u57 u58 u59 u60 u61 u62 u63 u64 u65 u66 u67 u68 u69 u71 u72 u73 u74 u75 u76 u77 u78 u79 u80 u81 u82 u83 u84 u85 u86 u87 u88 u89 u90 u91 u92 u93 u94 u95 u96 u97 u98 u99 u101 u102 u103 u104 u105 u106 u107 u108 u109 u110 u111 u112 u113 u114 u115 u116 u117 u118 u119 u120 u122 u123 u124 u125 u126 u127 u128 u129 u130 u131 u132 u133 u135 u136 u137 u138 u139 u140 u141 u142 u143 u144 u146 u147 u148 u149 u150 u151 u152 u153 u154 u155 u156 u157 u158 u159 u160 u161 u162 u163 u165 u166 u167 u168 u169 u170 u171 u172 u173 u174 u175 u176 u177 u178 :  Value) (x129002_47 x129003_47 : Int) (HO_129001 : Aside0 (k52.R 52 wc w.heap.size (fun x => True) u129001 x129001_27)) (BK128 :  Aside0 (wc.heap[gb128]? = some (Obj.cells #[Value.int IntKind.i64 a0_0, u129001, Value.int IntKind.u64 x129002_47, Value.int IntKind.u64 x129003_47, Value.int IntKind.u64 a0_4, Value.int IntKind.u64 a0_5, Value.int IntKind.u64 x129006_3, Value.int IntKind.u64 a0_7, Value.int IntKind.u64 a0_8, Value.int IntKind.u64 x129009_3] 26))) (BK129 :  Aside0 (wc.heap[gb129]? = some (Obj.cells #[Value.int IntKind.u64 a1_0, Value.int IntKind.u64 a1_1, Value.int IntKind.u64 a1_2, Value.int IntKind.u64 a1_3, Value.int IntKind.u64 a1_4, Value.int IntKind.u64 a1_5, Value.int IntKind.u64 a1_6, Value.int IntKind.u64 a1_7, Value.bool a1_8, Value.bool a1_9] 28))) (BK130 :  Aside0 (wc.heap[gb130]? = some (Obj.cells #[Value.int IntKind.i64 0, Value.slice none 0 0, Value.int IntKind.u64 0, Value.int IntKind.u64 0, Value.int IntKind.u64 0, Value.int IntKind.u64 0, Value.int IntKind.u64 0, Value.int IntKind.u64 0, Value.int IntKind.u64 0, Value.int IntKind.u64 0] 26))) (HB : Aside0 (Below w.heap.size w wc)) (kj47 : Nat) (HJ47 : Aside0 (kj47 + 1 ≤ kj39)) (H :  ((filt_Best.f x129001_27).bind fun t142 => if a0_0 = 0 then if a1_9 = true then if a1_8 = true then j5 kj47 (decide (a1_0 ≥ t141)) t142 false a0_0 x129001_27 x129002_47 x129003_47 a0_4 a0_5 x129006_3 a0_7 a0_8 x129009_3 a1_0 a1_1 a1_2 a1_3 a1_4 a1_5 a1_6 a1_7 a1_8 a1_9 else if t142 > 0 then (fix_Add.f a0_4 (IntKind.u64.wrap (a0_4.tdiv 4))).bind fun t143 => j5 kj47 (decide (a1_0 ≥ t141)) t142 (decide (t142 ≥ t143)) a0_0 x129001_27 x129002_47 x129003_47 a0_4 a0_5 x129006_3 a0_7 a0_8 x129009_3 a1_0 a1_1 a1_2 a1_3 a1_4 a1_5 a1_6 a1_7 a1_8 a1_9 else j5 kj47 (decide (a1_0 ≥ t141)) t142 false a0_0 x129001_27 x129002_47 x129003_47 a0_4 a0_5 x129006_3 a0_7 a0_8 x129009_3 a1_0 a1_1 a1_2 a1_3 a1_4 a1_5 a1_6 a1_7 a1_8 a1_9 else j5 kj47 (decide (a1_0 ≥ t141)) t142 false a0_0 x129001_27 x129002_47 x129003_47 a0_4 a0_5 x129006_3 a0_7 a0_8 x129009_3 a1_0 a1_1 a1_2 a1_3 a1_4 a1_5 a1_6 a1_7 a1_8 a1_9 else j5 kj47 (decide (a1_0 ≥ t141)) t142 false a0_0 x129001_27 x129002_47 x129003_47 a0_4 a0_5 x129006_3 a0_7 a0_8 x129009_3 a1_0 a1_1 a1_2 a1_3 a1_4 a1_5 a1_6 a1_7 a1_8 a1_9) = some (r1, r2, r3, r4, r5, r6, r7, r8, r9, r10)) (C_ : Code) (hC_ : secondC (secondC (secondC (secondC (secondC (secondC (Try.f11.body.getD .skip)))))) = C_) :
    Code.wp Try.prog C_ (bodyPost Try.prog Try.f11 fun e w' => ∃ v1_, e = Ending.returned (Value.agg #[Value.int IntKind.i64 r1, v1_, Value.int IntKind.u64 r3, Value.int IntKind.u64 r4, Value.int IntKind.u64 r5, Value.int IntKind.u64 r6, Value.int IntKind.u64 r7, Value.int IntKind.u64 r8, Value.int IntKind.u64 r9, Value.int IntKind.u64 r10]) ∧ k52.R 52 w' w.heap.size (fun x => True) v1_ r2 ∧ Below w.heap.size w w') { tmps := #[Value.agg #[Value.int IntKind.i64 a0_0, Value.slice A0_1 l0_1.length c0_1, Value.int IntKind.u64 a0_2, Value.int IntKind.u64 a0_3, Value.int IntKind.u64 a0_4, Value.int IntKind.u64 a0_5, Value.int IntKind.u64 a0_6, Value.int IntKind.u64 a0_7, Value.int IntKind.u64 a0_8, Value.int IntKind.u64 a0_9], Value.agg #[Value.int IntKind.u64 a1_0, Value.int IntKind.u64 a1_1, Value.int IntKind.u64 a1_2, Value.int IntKind.u64 a1_3, Value.int IntKind.u64 a1_4, Value.int IntKind.u64 a1_5, Value.int IntKind.u64 a1_6, Value.int IntKind.u64 a1_7, Value.bool a1_8, Value.bool a1_9], Value.pointer (some { block := gb128, off := 0 }), Value.pointer (some { block := gb129, off := 0 }), Value.pointer (some { block := gb130, off := 0 }), Value.bool (decide (t141 ≤ a1_0)), undef, undef, u8, u9, u10, u11, u12, u13, u14, u15, u16, u17, u18, u19, u20, u21, u22, u23, u24, u25, u26, u27, u28, u29, u30, u31, u32, u33, u34, u35, u36, u37, u38, u39, u40, u41, u42, u43, u44, u45, u46, u47, u48, u49, u50, u51, u52, u53, u54, u55, u56, u57, u58, u59, u60, u61, u62, u63, u64, u65, u66, u67, u68, u69, undef, u71, u72, u73, u74, u75, u76, u77, u78, u79, u80, u81, u82, u83, u84, u85, u86, u87, u88, u89, u90, u91, u92, u93, u94, u95, u96, u97, u98, u99, undef, u101, u102, u103, u104, u105, u106, u107, u108, u109, u110, u111, u112, u113, u114, u115, u116, u117, u118, u119, u120, undef, u122, u123, u124, u125, u126, u127, u128, u129, u130, u131, u132, u133, undef, u135, u136, u137, u138, u139, u140, u141, u142, u143, u144, undef, u146, u147, u148, u149, u150, u151, u152, u153, u154, u155, u156, u157, u158, u159, u160, u161, u162, u163, undef, u165, u166, u167, u168, u169, u170, u171, u172, u173, u174, u175, u176, u177, u178], defers := [] } wc := by
  unfold Try.f11 at hC_
  dsimp only [Option.getD_some, firstC, secondC] at hC_
  subst hC_
  try dsimp only
  replace H := Option.bind_eq_some_iff.mp H
  obtain ⟨t142, A530, H⟩ := H
  replace H : (if a0_0 = 0 then (if a1_9 = true then (if a1_8 = true then (probe_Ack.j5 kj47 (decide (a1_0 ≥ t141)) t142 false a0_0 x129001_27 x129002_47 x129003_47 a0_4 a0_5 x129006_3 a0_7 a0_8 x129009_3 a1_0 a1_1 a1_2 a1_3 a1_4 a1_5 a1_6 a1_7 a1_8 a1_9) else (if t142 > 0 then ((fix_Add.f a0_4 (IntKind.u64.wrap (Int.tdiv a0_4 4))).bind fun t143 => (probe_Ack.j5 kj47 (decide (a1_0 ≥ t141)) t142 (decide (t142 ≥ t143)) a0_0 x129001_27 x129002_47 x129003_47 a0_4 a0_5 x129006_3 a0_7 a0_8 x129009_3 a1_0 a1_1 a1_2 a1_3 a1_4 a1_5 a1_6 a1_7 a1_8 a1_9)) else (probe_Ack.j5 kj47 (decide (a1_0 ≥ t141)) t142 false a0_0 x129001_27 x129002_47 x129003_47 a0_4 a0_5 x129006_3 a0_7 a0_8 x129009_3 a1_0 a1_1 a1_2 a1_3 a1_4 a1_5 a1_6 a1_7 a1_8 a1_9))) else (probe_Ack.j5 kj47 (decide (a1_0 ≥ t141)) t142 false a0_0 x129001_27 x129002_47 x129003_47 a0_4 a0_5 x129006_3 a0_7 a0_8 x129009_3 a1_0 a1_1 a1_2 a1_3 a1_4 a1_5 a1_6 a1_7 a1_8 a1_9)) else (probe_Ack.j5 kj47 (decide (a1_0 ≥ t141)) t142 false a0_0 x129001_27 x129002_47 x129003_47 a0_4 a0_5 x129006_3 a0_7 a0_8 x129009_3 a1_0 a1_1 a1_2 a1_3 a1_4 a1_5 a1_6 a1_7 a1_8 a1_9)) = some (r1, r2, r3, r4, r5, r6, r7, r8, r9, r10) := H
  have A53 := Aside0.mk A530
  clear A530
  have HC54 := Aside0.mk H
  clear H; have hnb55 := NB128_129.out; have hnc55 := NB129_128.out; have hnb56 := NB128_130.out; have hnc56 := NB130_128.out; have hcz57_0 := cells10_ BK128.out; have hfz57_0 := froz10_ BK128.out
  obtain ⟨Ao58, co58, eo58⟩ := Kd.R_slice HO_129001.out
  subst eo58
  go_upto_region 12 with (first | ((with_reducible refine gate_callee (f := 23) rfl ?_); refine goesL_ (some 69) rfl rfl Try.func23 (by kernel_rfl) rfl #[.slice Ao58 x129001_27.length co58] rfl (by (try simp only [List.map_toArray, List.map_cons, List.map_nil]); first | done | rfl | (simp only [List.length_drop, List.length_take]; rfl)) ?_; (with_reducible refine (filt_Best.calls _ _ x129001_27 t142 _ ?side1 ?side2 A53.out).mono ?_); (case side1 => repeat (first | exact (Kd.R_reads' HO_129001.out).2.2 | (with_reducible refine Kd.C_alloc ?_ _) | (with_reducible refine Kd.C_drewN ?_ _) | (with_reducible refine Kd.C_drew ?_))); (case side2 => exact (Kd.R_reads' HO_129001.out).2.1); rintro e w' ⟨rfl, ⟨nd, rfl⟩⟩; refine ⟨_, rfl, ?_⟩))
  (try simp only [Act.put, List.setIfInBounds_toArray, List.set_cons_zero, List.set_cons_succ])
  go_cut [70] (fun v70 wc => ∃ (kq : Nat) (x70_53 : Bool), v70 = .bool x70_53 ∧ Aside0 (probe_Ack.j5 kq (decide (a1_0 ≥ t141)) t142 x70_53 a0_0 x129001_27 x129002_47 x129003_47 a0_4 a0_5 x129006_3 a0_7 a0_8 x129009_3 a1_0 a1_1 a1_2 a1_3 a1_4 a1_5 a1_6 a1_7 a1_8 a1_9 = some (r1, r2, r3, r4, r5, r6, r7, r8, r9, r10)) ∧ Aside0 (kq ≤ kj47) ∧ Aside0 (Kd.R k52 52 wc w.heap.size (fun _ => True) (.slice Ao58 x129001_27.length co58) x129001_27) ∧ Aside0 (wc.heap[gb128]? = some (.cells #[.int .i64 a0_0, (.slice Ao58 x129001_27.length co58), .int .u64 x129002_47, .int .u64 x129003_47, .int .u64 a0_4, .int .u64 a0_5, .int .u64 x129006_3, .int .u64 a0_7, .int .u64 a0_8, .int .u64 x129009_3] 26 (0, 0))) ∧ Aside0 (wc.heap[gb129]? = some (.cells #[.int .u64 a1_0, .int .u64 a1_1, .int .u64 a1_2, .int .u64 a1_3, .int .u64 a1_4, .int .u64 a1_5, .int .u64 a1_6, .int .u64 a1_7, .bool a1_8, .bool a1_9] 28 (0, 0))) ∧ Aside0 (wc.heap[gb130]? = some (.cells #[.int .i64 0, (.slice none 0 0), .int .u64 0, .int .u64 0, .int .u64 0, .int .u64 0, .int .u64 0, .int .u64 0, .int .u64 0, .int .u64 0] 26 (0, 0))) ∧ Aside0 (Below w.heap.size w wc))
  case first =>
   have H := HC54.out
   clear HC54
   by_cases c59 : a0_0 = 0
   ·rw [if_pos c59] at H
    have c59b0 : (a0_0 == 0) = true := beq_iff_eq.mpr c59
    have c59b1 : (a0_0 != 0) = false := bne_eq_false_iff_eq.mpr c59
    clear c59
    (first | rw [c59b0] | (simp only [i64_w, i32_w]; rw [c59b0]) | skip)
    by_cases c60 : a1_9 = true
    ·subst c60
     have H1 : (if a1_8 = true then (probe_Ack.j5 kj47 (decide (a1_0 ≥ t141)) t142 false a0_0 x129001_27 x129002_47 x129003_47 a0_4 a0_5 x129006_3 a0_7 a0_8 x129009_3 a1_0 a1_1 a1_2 a1_3 a1_4 a1_5 a1_6 a1_7 a1_8 true) else (if t142 > 0 then ((fix_Add.f a0_4 (IntKind.u64.wrap (Int.tdiv a0_4 4))).bind fun t143 => (probe_Ack.j5 kj47 (decide (a1_0 ≥ t141)) t142 (decide (t142 ≥ t143)) a0_0 x129001_27 x129002_47 x129003_47 a0_4 a0_5 x129006_3 a0_7 a0_8 x129009_3 a1_0 a1_1 a1_2 a1_3 a1_4 a1_5 a1_6 a1_7 a1_8 true)) else (probe_Ack.j5 kj47 (decide (a1_0 ≥ t141)) t142 false a0_0 x129001_27 x129002_47 x129003_47 a0_4 a0_5 x129006_3 a0_7 a0_8 x129009_3 a1_0 a1_1 a1_2 a1_3 a1_4 a1_5 a1_6 a1_7 a1_8 true))) = some (r1, r2, r3, r4, r5, r6, r7, r8, r9, r10) := by rw [if_pos rfl] at H; exact H
     clear H
     have H := H1
     clear H1
     by_cases c61 : a1_8 = true
     ·subst c61
      have H1 : (probe_Ack.j5 kj47 (decide (a1_0 ≥ t141)) t142 false a0_0 x129001_27 x129002_47 x129003_47 a0_4 a0_5 x129006_3 a0_7 a0_8 x129009_3 a1_0 a1_1 a1_2 a1_3 a1_4 a1_5 a1_6 a1_7 true true) = some (r1, r2, r3, r4, r5, r6, r7, r8, r9, r10) := by rw [if_pos rfl] at H; exact H
      clear H
      have H := H1
      clear H1
      have H' := Aside0.mk H
      clear H; have hnb62 := NB128_129.out; have hnc62 := NB129_128.out; have hnb63 := NB128_130.out; have hnc63 := NB130_128.out; have hcz64_0 := cells10_ BK128.out; have hfz64_0 := froz10_ BK128.out; have hnb65 := NB129_130.out; have hnc65 := NB130_129.out; have hcz66_0 := cells10_ BK129.out; have hfz66_0 := froz10_ BK129.out
      go_wp2
      go_meet
      case rel => exact ⟨_, (false), (by first | rfl | (simp; done) | (simp [*]; done)), H', ⟨by have := HJ3.out; have := HJ22.out; have := HJ27.out; have := HJ39.out; have := HJ47.out; first | omega | exact Nat.le_refl _⟩, ⟨by (with_reducible repeat (first | apply Kd.R_alloc | apply Kd.R_drewN | apply Kd.R_drew)); exact HO_129001.out⟩, ⟨by (with_reducible repeat first|apply bN_|apply bD_|apply bA_); exact BK128.out⟩, ⟨by (with_reducible repeat first|apply bN_|apply bD_|apply bA_); exact BK129.out⟩, ⟨by (with_reducible repeat first|apply bN_|apply bD_|apply bA_); exact BK130.out⟩, ⟨by repeat (first | (with_reducible first | exact HB.out | apply b1_ | apply b2_ | apply b3_ | refine bS_ ?_ GE128.out | refine bS_ ?_ GE129.out | refine bS_ ?_ GE130.out) | exact HB.out)⟩⟩
     ·replace c61 := Bool.eq_false_iff.mpr c61
      subst c61
      have H1 : (if t142 > 0 then ((fix_Add.f a0_4 (IntKind.u64.wrap (Int.tdiv a0_4 4))).bind fun t143 => (probe_Ack.j5 kj47 (decide (a1_0 ≥ t141)) t142 (decide (t142 ≥ t143)) a0_0 x129001_27 x129002_47 x129003_47 a0_4 a0_5 x129006_3 a0_7 a0_8 x129009_3 a1_0 a1_1 a1_2 a1_3 a1_4 a1_5 a1_6 a1_7 false true)) else (probe_Ack.j5 kj47 (decide (a1_0 ≥ t141)) t142 false a0_0 x129001_27 x129002_47 x129003_47 a0_4 a0_5 x129006_3 a0_7 a0_8 x129009_3 a1_0 a1_1 a1_2 a1_3 a1_4 a1_5 a1_6 a1_7 false true)) = some (r1, r2, r3, r4, r5, r6, r7, r8, r9, r10) := by rw [if_neg (show ¬ (false = true) by decide)] at H; exact H
      clear H
      have H := H1
      clear H1
      by_cases c67 : t142 > 0
      ·rw [if_pos c67] at H
       have c67b0 : decide (0 < t142) = true := decide_eq_true c67
       clear c67
       replace H := Option.bind_eq_some_iff.mp H
       obtain ⟨t143, A680, H⟩ := H
       replace H : (probe_Ack.j5 kj47 (decide (a1_0 ≥ t141)) t142 (decide (t142 ≥ t143)) a0_0 x129001_27 x129002_47 x129003_47 a0_4 a0_5 x129006_3 a0_7 a0_8 x129009_3 a1_0 a1_1 a1_2 a1_3 a1_4 a1_5 a1_6 a1_7 false true) = some (r1, r2, r3, r4, r5, r6, r7, r8, r9, r10) := H
       have A68 := Aside0.mk A680
       clear A680
       have H' := Aside0.mk H
       clear H; have hnb69 := NB128_129.out; have hnc69 := NB129_128.out; have hnb70 := NB128_130.out; have hnc70 := NB130_128.out; have hcz71_0 := cells10_ BK128.out; have hfz71_0 := froz10_ BK128.out; have hnb72 := NB129_130.out; have hnc72 := NB130_129.out; have hcz73_0 := cells10_ BK129.out; have hfz73_0 := froz10_ BK129.out
       go_wp2_with (first | (go_at_call 26; (with_reducible refine (fix_Add.calls a0_4 (IntKind.u64.wrap (Int.tdiv a0_4 4)) t143 _ A68.out).mono ?_); rintro e w' ⟨rfl, ⟨nd, rfl⟩⟩))
       go_meet
       case rel => exact ⟨_, (decide (t142 ≥ t143)), (by first | rfl | (simp; done) | (simp [*]; done)), H', ⟨by have := HJ3.out; have := HJ22.out; have := HJ27.out; have := HJ39.out; have := HJ47.out; first | omega | exact Nat.le_refl _⟩, ⟨by (with_reducible repeat (first | apply Kd.R_alloc | apply Kd.R_drewN | apply Kd.R_drew)); exact HO_129001.out⟩, ⟨by (with_reducible repeat first|apply bN_|apply bD_|apply bA_); exact BK128.out⟩, ⟨by (with_reducible repeat first|apply bN_|apply bD_|apply bA_); exact BK129.out⟩, ⟨by (with_reducible repeat first|apply bN_|apply bD_|apply bA_); exact BK130.out⟩, ⟨by repeat (first | (with_reducible first | exact HB.out | apply b1_ | apply b2_ | apply b3_ | refine bS_ ?_ GE128.out | refine bS_ ?_ GE129.out | refine bS_ ?_ GE130.out) | exact HB.out)⟩⟩
      ·rw [if_neg c67] at H
       have c67b0 : decide (0 < t142) = false := decide_eq_false c67
       clear c67
       have H' := Aside0.mk H
       clear H; have hnb74 := NB128_129.out; have hnc74 := NB129_128.out; have hnb75 := NB128_130.out; have hnc75 := NB130_128.out; have hcz76_0 := cells10_ BK128.out; have hfz76_0 := froz10_ BK128.out; have hnb77 := NB129_130.out; have hnc77 := NB130_129.out; have hcz78_0 := cells10_ BK129.out; have hfz78_0 := froz10_ BK129.out
       go_wp2
       go_meet
       case rel => exact ⟨_, (false), (by first | rfl | (simp; done) | (simp [*]; done)), H', ⟨by have := HJ3.out; have := HJ22.out; have := HJ27.out; have := HJ39.out; have := HJ47.out; first | omega | exact Nat.le_refl _⟩, ⟨by (with_reducible repeat (first | apply Kd.R_alloc | apply Kd.R_drewN | apply Kd.R_drew)); exact HO_129001.out⟩, ⟨by (with_reducible repeat first|apply bN_|apply bD_|apply bA_); exact BK128.out⟩, ⟨by (with_reducible repeat first|apply bN_|apply bD_|apply bA_); exact BK129.out⟩, ⟨by (with_reducible repeat first|apply bN_|apply bD_|apply bA_); exact BK130.out⟩, ⟨by repeat (first | (with_reducible first | exact HB.out | apply b1_ | apply b2_ | apply b3_ | refine bS_ ?_ GE128.out | refine bS_ ?_ GE129.out | refine bS_ ?_ GE130.out) | exact HB.out)⟩⟩
    ·replace c60 := Bool.eq_false_iff.mpr c60
     subst c60
     have H1 : (probe_Ack.j5 kj47 (decide (a1_0 ≥ t141)) t142 false a0_0 x129001_27 x129002_47 x129003_47 a0_4 a0_5 x129006_3 a0_7 a0_8 x129009_3 a1_0 a1_1 a1_2 a1_3 a1_4 a1_5 a1_6 a1_7 a1_8 false) = some (r1, r2, r3, r4, r5, r6, r7, r8, r9, r10) := by rw [if_neg (show ¬ (false = true) by decide)] at H; exact H
     clear H
     have H := H1
     clear H1
     have H' := Aside0.mk H
     clear H; have hnb79 := NB128_129.out; have hnc79 := NB129_128.out; have hnb80 := NB128_130.out; have hnc80 := NB130_128.out; have hcz81_0 := cells10_ BK128.out; have hfz81_0 := froz10_ BK128.out; have hnb82 := NB129_130.out; have hnc82 := NB130_129.out; have hcz83_0 := cells10_ BK129.out; have hfz83_0 := froz10_ BK129.out
     go_wp2
     go_meet
     case rel => exact ⟨_, (false), (by first | rfl | (simp; done) | (simp [*]; done)), H', ⟨by have := HJ3.out; have := HJ22.out; have := HJ27.out; have := HJ39.out; have := HJ47.out; first | omega | exact Nat.le_refl _⟩, ⟨by (with_reducible repeat (first | apply Kd.R_alloc | apply Kd.R_drewN | apply Kd.R_drew)); exact HO_129001.out⟩, ⟨by (with_reducible repeat first|apply bN_|apply bD_|apply bA_); exact BK128.out⟩, ⟨by (with_reducible repeat first|apply bN_|apply bD_|apply bA_); exact BK129.out⟩, ⟨by (with_reducible repeat first|apply bN_|apply bD_|apply bA_); exact BK130.out⟩, ⟨by repeat (first | (with_reducible first | exact HB.out | apply b1_ | apply b2_ | apply b3_ | refine bS_ ?_ GE128.out | refine bS_ ?_ GE129.out | refine bS_ ?_ GE130.out) | exact HB.out)⟩⟩
   ·rw [if_neg c59] at H
    have c59b0 : (a0_0 == 0) = false := beq_eq_false_iff_ne.mpr c59
    have c59b1 : (a0_0 != 0) = true := bne_iff_ne.mpr c59
    (first | rw [c59b0] | (simp only [i64_w, i32_w]; rw [c59b0]) | skip)
    have H' := Aside0.mk H
    clear H; have hnb84 := NB128_129.out; have hnc84 := NB129_128.out; have hnb85 := NB128_130.out; have hnc85 := NB130_128.out; have hcz86_0 := cells10_ BK128.out; have hfz86_0 := froz10_ BK128.out
    go_wp2
    go_meet
    case rel => exact ⟨_, (false), (by first | rfl | (simp; done) | (simp [*]; done)), H', ⟨by have := HJ3.out; have := HJ22.out; have := HJ27.out; have := HJ39.out; have := HJ47.out; first | omega | exact Nat.le_refl _⟩, ⟨by (with_reducible repeat (first | apply Kd.R_alloc | apply Kd.R_drewN | apply Kd.R_drew)); exact HO_129001.out⟩, ⟨by (with_reducible repeat first|apply bN_|apply bD_|apply bA_); exact BK128.out⟩, ⟨by (with_reducible repeat first|apply bN_|apply bD_|apply bA_); exact BK129.out⟩, ⟨by (with_reducible repeat first|apply bN_|apply bD_|apply bA_); exact BK130.out⟩, ⟨by repeat (first | (with_reducible first | exact HB.out | apply b1_ | apply b2_ | apply b3_ | refine bS_ ?_ GE128.out | refine bS_ ?_ GE129.out | refine bS_ ?_ GE130.out) | exact HB.out)⟩⟩
  case rest =>
   (try clear hnb55); (try clear hnc55); (try clear hnb56); (try clear hnc56); (try clear hcz57_0); (try clear hfz57_0)
   clear HC54; (try clear c1); (try clear c2); (try clear p2); (try clear c3); (try clear c4); (try clear c5); (try clear c6); (try clear c7); (try clear c8); (try clear c9); (try clear c11); (try clear c14); (try clear c16); (try clear c20); (try clear c21); (try clear c23); (try clear c24); (try clear c25); (try clear c26); (try clear c27); (try clear c28); (try clear c29); (try clear c31); (try clear c32); (try clear c34); (try clear c42); (try clear c42b0); (try clear c43); (try clear c44); (try clear c46); (try clear c49); (try clear c55); (try clear c56); (try clear c59); (try clear c59b0); (try clear c59b1); (try clear c60); (try clear c61); (try clear c62); (try clear c63); (try clear c65); (try clear c67); (try clear c67b0); (try clear c69); (try clear c70); (try clear c72); (try clear c74); (try clear c75); (try clear c77); (try clear c79); (try clear c80); (try clear c82); (try clear c84); (try clear c85); (try clear p2)
   (try clear HO_129001); (try clear BK128); (try clear BK129); (try clear BK130); (try clear HB)
   obtain ⟨kq, x70_53, rfl, HA, HJ53, HO_129001, BK128, BK129, BK130, HB⟩ := hcut
   cases kq with
   | zero => exact absurd HA.out (by simp [probe_Ack.j5])
   | succ kj53 =>
    have H := HA.out
    clear HA
    simp only [probe_Ack.j5] at H
    by_cases c87 : x70_53 = true
    ·subst c87
     have H1 : (some (a0_0, x129001_27, x129002_47, x129003_47, t142, 0, x129006_3, a0_7, a0_8, x129009_3)) = some (r1, r2, r3, r4, r5, r6, r7, r8, r9, r10) := by rw [if_pos rfl] at H; exact H
     clear H
     have H := H1
     clear H1
     simp only [Option.some.injEq, Prod.mk.injEq] at H
     obtain ⟨rfl, rfl, rfl, rfl, rfl, rfl, rfl, rfl, rfl, rfl⟩ := H
     have hnb88 := NB128_129.out; have hnc88 := NB129_128.out; have hnb89 := NB128_130.out; have hnc89 := NB130_128.out; have hcz90_0 := cells10_ BK128.out; have hfz90_0 := froz10_ BK128.out; have hnb91 := NB130_129.out; have hnc91 := NB129_130.out; have hcz92_0 := cells10_ BK130.out; have hfz92_0 := froz10_ BK130.out
     go_wp2
     refine bodyPost_ret (results_cell_row rfl _ _ gb130 26 #[.int .i64 a0_0, .slice Ao58 x129001_27.length co58, .int .u64 x129002_47, .int .u64 x129003_47, .int .u64 t142, .int .u64 0, .int .u64 x129006_3, .int .u64 a0_7, .int .u64 a0_8, .int .u64 x129009_3] (0, 0) _ rfl (by (with_reducible repeat first|apply bN_|apply bD_|apply bA_); refine blk_put (cs := #[.int .i64 a0_0, .slice Ao58 x129001_27.length co58, .int .u64 x129002_47, .int .u64 x129003_47, .int .u64 t142, .int .u64 0, .int .u64 x129006_3, .int .u64 a0_7, .int .u64 a0_8, .int .u64 0]) ?_ 9 _ rfl; (with_reducible repeat first|apply bN_|apply bD_|apply bA_); refine blk_put (cs := #[.int .i64 a0_0, .slice Ao58 x129001_27.length co58, .int .u64 x129002_47, .int .u64 x129003_47, .int .u64 t142, .int .u64 0, .int .u64 x129006_3, .int .u64 a0_7, .int .u64 0, .int .u64 0]) ?_ 8 _ rfl; (with_reducible repeat first|apply bN_|apply bD_|apply bA_); refine blk_put (cs := #[.int .i64 a0_0, .slice Ao58 x129001_27.length co58, .int .u64 x129002_47, .int .u64 x129003_47, .int .u64 t142, .int .u64 0, .int .u64 x129006_3, .int .u64 0, .int .u64 0, .int .u64 0]) ?_ 7 _ rfl; (with_reducible repeat first|apply bN_|apply bD_|apply bA_); refine blk_put (cs := #[.int .i64 a0_0, .slice Ao58 x129001_27.length co58, .int .u64 x129002_47, .int .u64 x129003_47, .int .u64 t142, .int .u64 0, .int .u64 0, .int .u64 0, .int .u64 0, .int .u64 0]) ?_ 6 _ rfl; (with_reducible repeat first|apply bN_|apply bD_|apply bA_); refine blk_put (cs := #[.int .i64 a0_0, .slice Ao58 x129001_27.length co58, .int .u64 x129002_47, .int .u64 x129003_47, .int .u64 t142, .int .u64 0, .int .u64 0, .int .u64 0, .int .u64 0, .int .u64 0]) ?_ 5 _ rfl; (with_reducible repeat first|apply bN_|apply bD_|apply bA_); refine blk_put (cs := #[.int .i64 a0_0, .slice Ao58 x129001_27.length co58, .int .u64 x129002_47, .int .u64 x129003_47, .int .u64 0, .int .u64 0, .int .u64 0, .int .u64 0, .int .u64 0, .int .u64 0]) ?_ 4 _ rfl; (with_reducible repeat first|apply bN_|apply bD_|apply bA_); refine blk_put (cs := #[.int .i64 a0_0, .slice Ao58 x129001_27.length co58, .int .u64 x129002_47, .int .u64 0, .int .u64 0, .int .u64 0, .int .u64 0, .int .u64 0, .int .u64 0, .int .u64 0]) ?_ 3 _ rfl; (with_reducible repeat first|apply bN_|apply bD_|apply bA_); refine blk_put (cs := #[.int .i64 a0_0, .slice Ao58 x129001_27.length co58, .int .u64 0, .int .u64 0, .int .u64 0, .int .u64 0, .int .u64 0, .int .u64 0, .int .u64 0, .int .u64 0]) ?_ 2 _ rfl; (with_reducible repeat first|apply bN_|apply bD_|apply bA_); refine blk_put (cs := #[.int .i64 a0_0, .slice none 0 0, .int .u64 0, .int .u64 0, .int .u64 0, .int .u64 0, .int .u64 0, .int .u64 0, .int .u64 0, .int .u64 0]) ?_ 1 _ rfl; (with_reducible repeat first|apply bN_|apply bD_|apply bA_); refine blk_put (cs := #[.int .i64 0, .slice none 0 0, .int .u64 0, .int .u64 0, .int .u64 0, .int .u64 0, .int .u64 0, .int .u64 0, .int .u64 0, .int .u64 0]) ?_ 0 _ rfl; (with_reducible repeat first|apply bN_|apply bD_|apply bA_); refine blk_far ?_ NB130_128.out _; (with_reducible repeat first|apply bN_|apply bD_|apply bA_); refine blk_far ?_ NB130_128.out _; (with_reducible repeat first|apply bN_|apply bD_|apply bA_); exact BK130.out) Try.underlying26 rfl (by kernel_rfl)) rfl ?_
     exact ⟨_, by first | rfl | (simp [errW_none, errW_some] <;> rfl) | (simp [*, errW_none, errW_some] <;> rfl), by (with_reducible repeat (first | apply Kd.R_alloc | apply Kd.R_drewN | apply Kd.R_drew)); exact Kd.R_mono (Kd.R_far (p := ⟨gb130, 9, none⟩) (Kd.R_far (p := ⟨gb130, 8, none⟩) (Kd.R_far (p := ⟨gb130, 7, none⟩) (Kd.R_far (p := ⟨gb130, 6, none⟩) (Kd.R_far (p := ⟨gb130, 5, none⟩) (Kd.R_far (p := ⟨gb130, 4, none⟩) (Kd.R_far (p := ⟨gb130, 3, none⟩) (Kd.R_far (p := ⟨gb130, 2, none⟩) (Kd.R_far (p := ⟨gb130, 1, none⟩) (Kd.R_far (p := ⟨gb130, 0, none⟩) (Kd.R_far (p := ⟨gb128, 5, none⟩) (Kd.R_far (p := ⟨gb128, 4, none⟩) (Kd.R_types (Kd.R_types HO_129001.out BK128.out (by decide)) BK130.out (by decide)) (fun _ hk => hk.1.2) (.int .u64 t142)) (fun _ hk => hk.1.2) (.int .u64 0)) (fun _ hk => hk.2) (.int .i64 a0_0)) (fun _ hk => hk.2) (.slice Ao58 x129001_27.length co58)) (fun _ hk => hk.2) (.int .u64 x129002_47)) (fun _ hk => hk.2) (.int .u64 x129003_47)) (fun _ hk => hk.2) (.int .u64 t142)) (fun _ hk => hk.2) (.int .u64 0)) (fun _ hk => hk.2) (.int .u64 x129006_3)) (fun _ hk => hk.2) (.int .u64 a0_7)) (fun _ hk => hk.2) (.int .u64 a0_8)) (fun _ hk => hk.2) (.int .u64 x129009_3)) (fun _ hk => trivial), by repeat (first | (with_reducible first | exact HB.out | apply b1_ | apply b2_ | apply b3_ | refine bS_ ?_ GE128.out | refine bS_ ?_ GE129.out | refine bS_ ?_ GE130.out) | exact HB.out)⟩
    ·replace c87 := Bool.eq_false_iff.mpr c87
     subst c87
     have H1 : (if a0_0 = 0 then (if a1_9 = true then (probe_Ack.j6 kj53 (decide (a1_0 ≥ t141)) (!a1_8) a0_0 x129001_27 x129002_47 x129003_47 a0_4 a0_5 x129006_3 a0_7 a0_8 x129009_3 a1_0 a1_1 a1_2 a1_3 a1_4 a1_5 a1_6 a1_7 a1_8 a1_9) else (probe_Ack.j6 kj53 (decide (a1_0 ≥ t141)) false a0_0 x129001_27 x129002_47 x129003_47 a0_4 a0_5 x129006_3 a0_7 a0_8 x129009_3 a1_0 a1_1 a1_2 a1_3 a1_4 a1_5 a1_6 a1_7 a1_8 a1_9)) else (probe_Ack.j6 kj53 (decide (a1_0 ≥ t141)) false a0_0 x129001_27 x129002_47 x129003_47 a0_4 a0_5 x129006_3 a0_7 a0_8 x129009_3 a1_0 a1_1 a1_2 a1_3 a1_4 a1_5 a1_6 a1_7 a1_8 a1_9)) = some (r1, r2, r3, r4, r5, r6, r7, r8, r9, r10) := by rw [if_neg (show ¬ (false = true) by decide)] at H; exact H
     clear H
     have H := H1
     clear H1
     have HC93 := Aside0.mk H
     clear H
     go_upto_region 14 with (fail)
     go_cut [100] (fun v100 wc => ∃ (kq : Nat) (x100_92 : Bool), v100 = .bool x100_92 ∧ Aside0 (probe_Ack.j6 kq (decide (a1_0 ≥ t141)) x100_92 a0_0 x129001_27 x129002_47 x129003_47 a0_4 a0_5 x129006_3 a0_7 a0_8 x129009_3 a1_0 a1_1 a1_2 a1_3 a1_4 a1_5 a1_6 a1_7 a1_8 a1_9 = some (r1, r2, r3, r4, r5, r6, r7, r8, r9, r10)) ∧ Aside0 (kq ≤ kj53) ∧ Aside0 (Kd.R k52 52 wc w.heap.size (fun _ => True) (.slice Ao58 x129001_27.length co58) x129001_27) ∧ Aside0 (wc.heap[gb128]? = some (.cells #[.int .i64 a0_0, (.slice Ao58 x129001_27.length co58), .int .u64 x129002_47, .int .u64 x129003_47, .int .u64 a0_4, .int .u64 a0_5, .int .u64 x129006_3, .int .u64 a0_7, .int .u64 a0_8, .int .u64 x129009_3] 26 (0, 0))) ∧ Aside0 (wc.heap[gb129]? = some (.cells #[.int .u64 a1_0, .int .u64 a1_1, .int .u64 a1_2, .int .u64 a1_3, .int .u64 a1_4, .int .u64 a1_5, .int .u64 a1_6, .int .u64 a1_7, .bool a1_8, .bool a1_9] 28 (0, 0))) ∧ Aside0 (wc.heap[gb130]? = some (.cells #[.int .i64 0, (.slice none 0 0), .int .u64 0, .int .u64 0, .int .u64 0, .int .u64 0, .int .u64 0, .int .u64 0, .int .u64 0, .int .u64 0] 26 (0, 0))) ∧ Aside0 (Below w.heap.size w wc))
     case first =>
      have H := HC93.out
      clear HC93
      by_cases c94 : a0_0 = 0
      ·rw [if_pos c94] at H
       have c94b0 : (a0_0 == 0) = true := beq_iff_eq.mpr c94
       have c94b1 : (a0_0 != 0) = false := bne_eq_false_iff_eq.mpr c94
       clear c94
       (first | rw [c94b0] | (simp only [i64_w, i32_w]; rw [c94b0]) | skip)
       by_cases c95 : a1_9 = true
       ·subst c95
        have H1 : (probe_Ack.j6 kj53 (decide (a1_0 ≥ t141)) (!a1_8) a0_0 x129001_27 x129002_47 x129003_47 a0_4 a0_5 x129006_3 a0_7 a0_8 x129009_3 a1_0 a1_1 a1_2 a1_3 a1_4 a1_5 a1_6 a1_7 a1_8 true) = some (r1, r2, r3, r4, r5, r6, r7, r8, r9, r10) := by rw [if_pos rfl] at H; exact H
        clear H
        have H := H1
        clear H1
        have H' := Aside0.mk H
        clear H; have hnb96 := NB128_129.out; have hnc96 := NB129_128.out; have hnb97 := NB128_130.out; have hnc97 := NB130_128.out; have hcz98_0 := cells10_ BK128.out; have hfz98_0 := froz10_ BK128.out; have hnb99 := NB129_130.out; have hnc99 := NB130_129.out; have hcz100_0 := cells10_ BK129.out; have hfz100_0 := froz10_ BK129.out
        go_wp2
        go_meet
        case rel => exact ⟨_, (!a1_8), (by first | rfl | (simp; done) | (simp [*]; done)), H', ⟨by have := HJ3.out; have := HJ22.out; have := HJ27.out; have := HJ39.out; have := HJ47.out; have := HJ53.out; first | omega | exact Nat.le_refl _⟩, ⟨by (with_reducible repeat (first | apply Kd.R_alloc | apply Kd.R_drewN | apply Kd.R_drew)); exact HO_129001.out⟩, ⟨by (with_reducible repeat first|apply bN_|apply bD_|apply bA_); exact BK128.out⟩, ⟨by (with_reducible repeat first|apply bN_|apply bD_|apply bA_); exact BK129.out⟩, ⟨by (with_reducible repeat first|apply bN_|apply bD_|apply bA_); exact BK130.out⟩, ⟨by repeat (first | (with_reducible first | exact HB.out | apply b1_ | apply b2_ | apply b3_ | refine bS_ ?_ GE128.out | refine bS_ ?_ GE129.out | refine bS_ ?_ GE130.out) | exact HB.out)⟩⟩
       ·replace c95 := Bool.eq_false_iff.mpr c95
        subst c95
        have H1 : (probe_Ack.j6 kj53 (decide (a1_0 ≥ t141)) false a0_0 x129001_27 x129002_47 x129003_47 a0_4 a0_5 x129006_3 a0_7 a0_8 x129009_3 a1_0 a1_1 a1_2 a1_3 a1_4 a1_5 a1_6 a1_7 a1_8 false) = some (r1, r2, r3, r4, r5, r6, r7, r8, r9, r10) := by rw [if_neg (show ¬ (false = true) by decide)] at H; exact H
        clear H
        have H := H1
        clear H1
        have H' := Aside0.mk H
        clear H; have hnb101 := NB128_129.out; have hnc101 := NB129_128.out; have hnb102 := NB128_130.out; have hnc102 := NB130_128.out; have hcz103_0 := cells10_ BK128.out; have hfz103_0 := froz10_ BK128.out; have hnb104 := NB129_130.out; have hnc104 := NB130_129.out; have hcz105_0 := cells10_ BK129.out; have hfz105_0 := froz10_ BK129.out
        go_wp2
        go_meet
        case rel => exact ⟨_, (false), (by first | rfl | (simp; done) | (simp [*]; done)), H', ⟨by have := HJ3.out; have := HJ22.out; have := HJ27.out; have := HJ39.out; have := HJ47.out; have := HJ53.out; first | omega | exact Nat.le_refl _⟩, ⟨by (with_reducible repeat (first | apply Kd.R_alloc | apply Kd.R_drewN | apply Kd.R_drew)); exact HO_129001.out⟩, ⟨by (with_reducible repeat first|apply bN_|apply bD_|apply bA_); exact BK128.out⟩, ⟨by (with_reducible repeat first|apply bN_|apply bD_|apply bA_); exact BK129.out⟩, ⟨by (with_reducible repeat first|apply bN_|apply bD_|apply bA_); exact BK130.out⟩, ⟨by repeat (first | (with_reducible first | exact HB.out | apply b1_ | apply b2_ | apply b3_ | refine bS_ ?_ GE128.out | refine bS_ ?_ GE129.out | refine bS_ ?_ GE130.out) | exact HB.out)⟩⟩
      ·rw [if_neg c94] at H
       have c94b0 : (a0_0 == 0) = false := beq_eq_false_iff_ne.mpr c94
       have c94b1 : (a0_0 != 0) = true := bne_iff_ne.mpr c94
       (first | rw [c94b0] | (simp only [i64_w, i32_w]; rw [c94b0]) | skip)
       have H' := Aside0.mk H
       clear H; have hnb106 := NB128_129.out; have hnc106 := NB129_128.out; have hnb107 := NB128_130.out; have hnc107 := NB130_128.out; have hcz108_0 := cells10_ BK128.out; have hfz108_0 := froz10_ BK128.out
       go_wp2
       go_meet
       case rel => exact ⟨_, (false), (by first | rfl | (simp; done) | (simp [*]; done)), H', ⟨by have := HJ3.out; have := HJ22.out; have := HJ27.out; have := HJ39.out; have := HJ47.out; have := HJ53.out; first | omega | exact Nat.le_refl _⟩, ⟨by (with_reducible repeat (first | apply Kd.R_alloc | apply Kd.R_drewN | apply Kd.R_drew)); exact HO_129001.out⟩, ⟨by (with_reducible repeat first|apply bN_|apply bD_|apply bA_); exact BK128.out⟩, ⟨by (with_reducible repeat first|apply bN_|apply bD_|apply bA_); exact BK129.out⟩, ⟨by (with_reducible repeat first|apply bN_|apply bD_|apply bA_); exact BK130.out⟩, ⟨by repeat (first | (with_reducible first | exact HB.out | apply b1_ | apply b2_ | apply b3_ | refine bS_ ?_ GE128.out | refine bS_ ?_ GE129.out | refine bS_ ?_ GE130.out) | exact HB.out)⟩⟩
     case rest =>
      (try clear hnb88); (try clear hnc88); (try clear hnb89); (try clear hnc89); (try clear hcz90_0); (try clear hfz90_0); (try clear hnb91); (try clear hnc91); (try clear hcz92_0); (try clear hfz92_0)
      clear HC93; (try clear c1); (try clear p2); (try clear c8); (try clear c9); (try clear c10); (try clear c87); (try clear c88); (try clear c89); (try clear c91); (try clear c94); (try clear c94b0); (try clear c94b1); (try clear c95); (try clear c96); (try clear c97); (try clear c99); (try clear c101); (try clear c102); (try clear c104); (try clear c106); (try clear c107); (try clear p2)
      (try clear HO_129001); (try clear BK128); (try clear BK129); (try clear BK130); (try clear HB)
      obtain ⟨kq, x100_92, rfl, HA, HJ92, HO_129001, BK128, BK129, BK130, HB⟩ := hcut
      cases kq with
      | zero => exact absurd HA.out (by simp [probe_Ack.j6])
      | succ kj92 =>
       have H := HA.out
       clear HA
       simp only [probe_Ack.j6] at H
       by_cases c109 : x100_92 = true
       ·subst c109
        have H1 : ((fix_Add.f a0_5 1).bind fun t144 => (if t144 = 3 then (some (1, x129001_27, x129002_47, x129003_47, a0_4, t144, x129006_3, a0_7, a0_8, x129009_3)) else (some (a0_0, x129001_27, x129002_47, x129003_47, a0_4, t144, x129006_3, a0_7, a0_8, x129009_3)))) = some (r1, r2, r3, r4, r5, r6, r7, r8, r9, r10) := by rw [if_pos rfl] at H; exact H
        clear H
        have H := H1
        clear H1
        replace H := Option.bind_eq_some_iff.mp H
        obtain ⟨t144, A1100, H⟩ := H
        replace H : (if t144 = 3 then (some (1, x129001_27, x129002_47, x129003_47, a0_4, t144, x129006_3, a0_7, a0_8, x129009_3)) else (some (a0_0, x129001_27, x129002_47, x129003_47, a0_4, t144, x129006_3, a0_7, a0_8, x129009_3))) = some (r1, r2, r3, r4, r5, r6, r7, r8, r9, r10) := H
        have A110 := Aside0.mk A1100
        clear A1100
        by_cases c111 : t144 = 3
        ·rw [if_pos c111] at H
         have c111b0 : (t144 == 3) = true := beq_iff_eq.mpr c111
         have c111b1 : (t144 != 3) = false := bne_eq_false_iff_eq.mpr c111
         clear c111
         simp only [Option.some.injEq, Prod.mk.injEq] at H
         obtain ⟨rfl, rfl, rfl, rfl, rfl, rfl, rfl, rfl, rfl, rfl⟩ := H
         have hnb112 := NB128_129.out; have hnc112 := NB129_128.out; have hnb113 := NB128_130.out; have hnc113 := NB130_128.out; have hcz114_0 := cells10_ BK128.out; have hfz114_0 := froz10_ BK128.out
         go_wp2_with (first | ((with_reducible refine gate_callee (f := 26) rfl ?_); refine goesL_ (some 115) rfl rfl Try.func26 (by kernel_rfl) rfl #[.int .u64 a0_5, .int .u64 1] rfl (by (try simp only [List.map_toArray, List.map_cons, List.map_nil]); first | done | rfl | (simp only [List.length_drop, List.length_take]; rfl)) ?_; (with_reducible refine (fix_Add.calls a0_5 1 t144 _ A110.out).mono ?_); rintro e w' ⟨rfl, ⟨nd, rfl⟩⟩; refine ⟨_, rfl, ?_⟩; (try (rw [drewN_self wc]; generalize hq_ : World.drewN wc _ = wc; have n0_ : Aside0 (Kd.R k52 52 wc w.heap.size (fun _ => True) (.slice Ao58 x129001_27.length co58) x129001_27) := ⟨by rw [← hq_]; exact (by (with_reducible repeat (first | apply Kd.R_alloc | apply Kd.R_drewN | apply Kd.R_drew)); exact HO_129001.out)⟩; have n1_ : Aside0 (wc.heap[gb128]? = some (.cells #[.int .i64 a0_0, .slice Ao58 x129001_27.length co58, .int .u64 x129002_47, .int .u64 x129003_47, .int .u64 a0_4, .int .u64 a0_5, .int .u64 x129006_3, .int .u64 a0_7, .int .u64 a0_8, .int .u64 x129009_3] 26 (0, 0))) := ⟨by rw [← hq_]; exact (by (with_reducible repeat first|apply bN_|apply bD_|apply bA_); exact BK128.out)⟩; have n2_ : Aside0 (wc.heap[gb129]? = some (.cells #[.int .u64 a1_0, .int .u64 a1_1, .int .u64 a1_2, .int .u64 a1_3, .int .u64 a1_4, .int .u64 a1_5, .int .u64 a1_6, .int .u64 a1_7, .bool a1_8, .bool a1_9] 28 (0, 0))) := ⟨by rw [← hq_]; exact (by (with_reducible repeat first|apply bN_|apply bD_|apply bA_); exact BK129.out)⟩; have n3_ : Aside0 (wc.heap[gb130]? = some (.cells #[.int .i64 0, .slice none 0 0, .int .u64 0, .int .u64 0, .int .u64 0, .int .u64 0, .int .u64 0, .int .u64 0, .int .u64 0, .int .u64 0] 26 (0, 0))) := ⟨by rw [← hq_]; exact (by (with_reducible repeat first|apply bN_|apply bD_|apply bA_); exact BK130.out)⟩; have n4_ : Aside0 (Below w.heap.size w wc) := ⟨by rw [← hq_]; exact (by repeat (first | (with_reducible first | exact HB.out | apply b1_ | apply b2_ | apply b3_ | refine bS_ ?_ GE128.out | refine bS_ ?_ GE129.out | refine bS_ ?_ GE130.out) | exact HB.out))⟩; clear HO_129001 BK128 BK129 BK130 HB hq_; have HO_129001 := n0_; have BK128 := n1_; have BK129 := n2_; have BK130 := n3_; have HB := n4_; clear n0_ n1_ n2_ n3_ n4_)); have hcz115_0 := cells10_ BK128.out; have hfz115_0 := froz10_ BK128.out; have hnb116 := NB130_129.out; have hnc116 := NB129_130.out; have hcz117_0 := cells10_ BK130.out; have hfz117_0 := froz9_ BK130.out; have hfz117_9 := blk_frozen BK130.out 9))
         refine bodyPost_ret (results_cell_row rfl _ _ gb130 26 #[.int .i64 1, .slice Ao58 x129001_27.length co58, .int .u64 x129002_47, .int .u64 x129003_47, .int .u64 a0_4, .int .u64 t144, .int .u64 x129006_3, .int .u64 a0_7, .int .u64 a0_8, .int .u64 x129009_3] (0, 0) _ rfl (by (with_reducible repeat first|apply bN_|apply bD_|apply bA_); refine blk_put (cs := #[.int .i64 1, .slice Ao58 x129001_27.length co58, .int .u64 x129002_47, .int .u64 x129003_47, .int .u64 a0_4, .int .u64 t144, .int .u64 x129006_3, .int .u64 a0_7, .int .u64 a0_8, .int .u64 0]) ?_ 9 _ rfl; (with_reducible repeat first|apply bN_|apply bD_|apply bA_); refine blk_put (cs := #[.int .i64 1, .slice Ao58 x129001_27.length co58, .int .u64 x129002_47, .int .u64 x129003_47, .int .u64 a0_4, .int .u64 t144, .int .u64 x129006_3, .int .u64 a0_7, .int .u64 0, .int .u64 0]) ?_ 8 _ rfl; (with_reducible repeat first|apply bN_|apply bD_|apply bA_); refine blk_put (cs := #[.int .i64 1, .slice Ao58 x129001_27.length co58, .int .u64 x129002_47, .int .u64 x129003_47, .int .u64 a0_4, .int .u64 t144, .int .u64 x129006_3, .int .u64 0, .int .u64 0, .int .u64 0]) ?_ 7 _ rfl; (with_reducible repeat first|apply bN_|apply bD_|apply bA_); refine blk_put (cs := #[.int .i64 1, .slice Ao58 x129001_27.length co58, .int .u64 x129002_47, .int .u64 x129003_47, .int .u64 a0_4, .int .u64 t144, .int .u64 0, .int .u64 0, .int .u64 0, .int .u64 0]) ?_ 6 _ rfl; (with_reducible repeat first|apply bN_|apply bD_|apply bA_); refine blk_put (cs := #[.int .i64 1, .slice Ao58 x129001_27.length co58, .int .u64 x129002_47, .int .u64 x129003_47, .int .u64 a0_4, .int .u64 0, .int .u64 0, .int .u64 0, .int .u64 0, .int .u64 0]) ?_ 5 _ rfl; (with_reducible repeat first|apply bN_|apply bD_|apply bA_); refine blk_put (cs := #[.int .i64 1, .slice Ao58 x129001_27.length co58, .int .u64 x129002_47, .int .u64 x129003_47, .int .u64 0, .int .u64 0, .int .u64 0, .int .u64 0, .int .u64 0, .int .u64 0]) ?_ 4 _ rfl; (with_reducible repeat first|apply bN_|apply bD_|apply bA_); refine blk_put (cs := #[.int .i64 1, .slice Ao58 x129001_27.length co58, .int .u64 x129002_47, .int .u64 0, .int .u64 0, .int .u64 0, .int .u64 0, .int .u64 0, .int .u64 0, .int .u64 0]) ?_ 3 _ rfl; (with_reducible repeat first|apply bN_|apply bD_|apply bA_); refine blk_put (cs := #[.int .i64 1, .slice Ao58 x129001_27.length co58, .int .u64 0, .int .u64 0, .int .u64 0, .int .u64 0, .int .u64 0, .int .u64 0, .int .u64 0, .int .u64 0]) ?_ 2 _ rfl; (with_reducible repeat first|apply bN_|apply bD_|apply bA_); refine blk_put (cs := #[.int .i64 1, .slice none 0 0, .int .u64 0, .int .u64 0, .int .u64 0, .int .u64 0, .int .u64 0, .int .u64 0, .int .u64 0, .int .u64 0]) ?_ 1 _ rfl; (with_reducible repeat first|apply bN_|apply bD_|apply bA_); refine blk_put (cs := #[.int .i64 0, .slice none 0 0, .int .u64 0, .int .u64 0, .int .u64 0, .int .u64 0, .int .u64 0, .int .u64 0, .int .u64 0, .int .u64 0]) ?_ 0 _ rfl; (with_reducible repeat first|apply bN_|apply bD_|apply bA_); refine blk_far ?_ NB130_128.out _; (with_reducible repeat first|apply bN_|apply bD_|apply bA_); refine blk_far ?_ NB130_128.out _; (with_reducible repeat first|apply bN_|apply bD_|apply bA_); exact BK130.out) Try.underlying26 rfl (by kernel_rfl)) rfl ?_
         exact ⟨_, by first | rfl | (simp [errW_none, errW_some] <;> rfl) | (simp [*, errW_none, errW_some] <;> rfl), by (with_reducible repeat (first | apply Kd.R_alloc | apply Kd.R_drewN | apply Kd.R_drew)); exact Kd.R_mono (Kd.R_far (p := ⟨gb130, 9, none⟩) (Kd.R_far (p := ⟨gb130, 8, none⟩) (Kd.R_far (p := ⟨gb130, 7, none⟩) (Kd.R_far (p := ⟨gb130, 6, none⟩) (Kd.R_far (p := ⟨gb130, 5, none⟩) (Kd.R_far (p := ⟨gb130, 4, none⟩) (Kd.R_far (p := ⟨gb130, 3, none⟩) (Kd.R_far (p := ⟨gb130, 2, none⟩) (Kd.R_far (p := ⟨gb130, 1, none⟩) (Kd.R_far (p := ⟨gb130, 0, none⟩) (Kd.R_far (p := ⟨gb128, 0, none⟩) (Kd.R_far (p := ⟨gb128, 5, none⟩) (Kd.R_types (Kd.R_types HO_129001.out BK128.out (by decide)) BK130.out (by decide)) (fun _ hk => hk.1.2) (.int .u64 t144)) (fun _ hk => hk.1.2) (.int .i64 1)) (fun _ hk => hk.2) (.int .i64 1)) (fun _ hk => hk.2) (.slice Ao58 x129001_27.length co58)) (fun _ hk => hk.2) (.int .u64 x129002_47)) (fun _ hk => hk.2) (.int .u64 x129003_47)) (fun _ hk => hk.2) (.int .u64 a0_4)) (fun _ hk => hk.2) (.int .u64 t144)) (fun _ hk => hk.2) (.int .u64 x129006_3)) (fun _ hk => hk.2) (.int .u64 a0_7)) (fun _ hk => hk.2) (.int .u64 a0_8)) (fun _ hk => hk.2) (.int .u64 x129009_3)) (fun _ hk => trivial), by repeat (first | (with_reducible first | exact HB.out | apply b1_ | apply b2_ | apply b3_ | refine bS_ ?_ GE128.out | refine bS_ ?_ GE129.out | refine bS_ ?_ GE130.out) | exact HB.out)⟩
        ·rw [if_neg c111] at H
         have c111b0 : (t144 == 3) = false := beq_eq_false_iff_ne.mpr c111
         have c111b1 : (t144 != 3) = true := bne_iff_ne.mpr c111
         simp only [Option.some.injEq, Prod.mk.injEq] at H
         obtain ⟨rfl, rfl, rfl, rfl, rfl, rfl, rfl, rfl, rfl, rfl⟩ := H
         have hnb118 := NB128_129.out; have hnc118 := NB129_128.out; have hnb119 := NB128_130.out; have hnc119 := NB130_128.out; have hcz120_0 := cells10_ BK128.out; have hfz120_0 := froz10_ BK128.out
         go_wp2_with (first | ((with_reducible refine gate_callee (f := 26) rfl ?_); refine goesL_ (some 115) rfl rfl Try.func26 (by kernel_rfl) rfl #[.int .u64 a0_5, .int .u64 1] rfl (by (try simp only [List.map_toArray, List.map_cons, List.map_nil]); first | done | rfl | (simp only [List.length_drop, List.length_take]; rfl)) ?_; (with_reducible refine (fix_Add.calls a0_5 1 t144 _ A110.out).mono ?_); rintro e w' ⟨rfl, ⟨nd, rfl⟩⟩; refine ⟨_, rfl, ?_⟩; (try (rw [drewN_self wc]; generalize hq_ : World.drewN wc _ = wc; have n0_ : Aside0 (Kd.R k52 52 wc w.heap.size (fun _ => True) (.slice Ao58 x129001_27.length co58) x129001_27) := ⟨by rw [← hq_]; exact (by (with_reducible repeat (first | apply Kd.R_alloc | apply Kd.R_drewN | apply Kd.R_drew)); exact HO_129001.out)⟩; have n1_ : Aside0 (wc.heap[gb128]? = some (.cells #[.int .i64 a0_0, .slice Ao58 x129001_27.length co58, .int .u64 x129002_47, .int .u64 x129003_47, .int .u64 a0_4, .int .u64 a0_5, .int .u64 x129006_3, .int .u64 a0_7, .int .u64 a0_8, .int .u64 x129009_3] 26 (0, 0))) := ⟨by rw [← hq_]; exact (by (with_reducible repeat first|apply bN_|apply bD_|apply bA_); exact BK128.out)⟩; have n2_ : Aside0 (wc.heap[gb129]? = some (.cells #[.int .u64 a1_0, .int .u64 a1_1, .int .u64 a1_2, .int .u64 a1_3, .int .u64 a1_4, .int .u64 a1_5, .int .u64 a1_6, .int .u64 a1_7, .bool a1_8, .bool a1_9] 28 (0, 0))) := ⟨by rw [← hq_]; exact (by (with_reducible repeat first|apply bN_|apply bD_|apply bA_); exact BK129.out)⟩; have n3_ : Aside0 (wc.heap[gb130]? = some (.cells #[.int .i64 0, .slice none 0 0, .int .u64 0, .int .u64 0, .int .u64 0, .int .u64 0, .int .u64 0, .int .u64 0, .int .u64 0, .int .u64 0] 26 (0, 0))) := ⟨by rw [← hq_]; exact (by (with_reducible repeat first|apply bN_|apply bD_|apply bA_); exact BK130.out)⟩; have n4_ : Aside0 (Below w.heap.size w wc) := ⟨by rw [← hq_]; exact (by repeat (first | (with_reducible first | exact HB.out | apply b1_ | apply b2_ | apply b3_ | refine bS_ ?_ GE128.out | refine bS_ ?_ GE129.out | refine bS_ ?_ GE130.out) | exact HB.out))⟩; clear HO_129001 BK128 BK129 BK130 HB hq_; have HO_129001 := n0_; have BK128 := n1_; have BK129 := n2_; have BK130 := n3_; have HB := n4_; clear n0_ n1_ n2_ n3_ n4_)); have hcz121_0 := cells10_ BK128.out; have hfz121_0 := froz10_ BK128.out; have hnb122 := NB130_129.out; have hnc122 := NB129_130.out; have hcz123_0 := cells10_ BK130.out; have hfz123_0 := froz9_ BK130.out; have hfz123_9 := blk_frozen BK130.out 9))
         refine bodyPost_ret (results_cell_row rfl _ _ gb130 26 #[.int .i64 a0_0, .slice Ao58 x129001_27.length co58, .int .u64 x129002_47, .int .u64 x129003_47, .int .u64 a0_4, .int .u64 t144, .int .u64 x129006_3, .int .u64 a0_7, .int .u64 a0_8, .int .u64 x129009_3] (0, 0) _ rfl (by (with_reducible repeat first|apply bN_|apply bD_|apply bA_); refine blk_put (cs := #[.int .i64 a0_0, .slice Ao58 x129001_27.length co58, .int .u64 x129002_47, .int .u64 x129003_47, .int .u64 a0_4, .int .u64 t144, .int .u64 x129006_3, .int .u64 a0_7, .int .u64 a0_8, .int .u64 0]) ?_ 9 _ rfl; (with_reducible repeat first|apply bN_|apply bD_|apply bA_); refine blk_put (cs := #[.int .i64 a0_0, .slice Ao58 x129001_27.length co58, .int .u64 x129002_47, .int .u64 x129003_47, .int .u64 a0_4, .int .u64 t144, .int .u64 x129006_3, .int .u64 a0_7, .int .u64 0, .int .u64 0]) ?_ 8 _ rfl; (with_reducible repeat first|apply bN_|apply bD_|apply bA_); refine blk_put (cs := #[.int .i64 a0_0, .slice Ao58 x129001_27.length co58, .int .u64 x129002_47, .int .u64 x129003_47, .int .u64 a0_4, .int .u64 t144, .int .u64 x129006_3, .int .u64 0, .int .u64 0, .int .u64 0]) ?_ 7 _ rfl; (with_reducible repeat first|apply bN_|apply bD_|apply bA_); refine blk_put (cs := #[.int .i64 a0_0, .slice Ao58 x129001_27.length co58, .int .u64 x129002_47, .int .u64 x129003_47, .int .u64 a0_4, .int .u64 t144, .int .u64 0, .int .u64 0, .int .u64 0, .int .u64 0]) ?_ 6 _ rfl; (with_reducible repeat first|apply bN_|apply bD_|apply bA_); refine blk_put (cs := #[.int .i64 a0_0, .slice Ao58 x129001_27.length co58, .int .u64 x129002_47, .int .u64 x129003_47, .int .u64 a0_4, .int .u64 0, .int .u64 0, .int .u64 0, .int .u64 0, .int .u64 0]) ?_ 5 _ rfl; (with_reducible repeat first|apply bN_|apply bD_|apply bA_); refine blk_put (cs := #[.int .i64 a0_0, .slice Ao58 x129001_27.length co58, .int .u64 x129002_47, .int .u64 x129003_47, .int .u64 0, .int .u64 0, .int .u64 0, .int .u64 0, .int .u64 0, .int .u64 0]) ?_ 4 _ rfl; (with_reducible repeat first|apply bN_|apply bD_|apply bA_); refine blk_put (cs := #[.int .i64 a0_0, .slice Ao58 x129001_27.length co58, .int .u64 x129002_47, .int .u64 0, .int .u64 0, .int .u64 0, .int .u64 0, .int .u64 0, .int .u64 0, .int .u64 0]) ?_ 3 _ rfl; (with_reducible repeat first|apply bN_|apply bD_|apply bA_); refine blk_put (cs := #[.int .i64 a0_0, .slice Ao58 x129001_27.length co58, .int .u64 0, .int .u64 0, .int .u64 0, .int .u64 0, .int .u64 0, .int .u64 0, .int .u64 0, .int .u64 0]) ?_ 2 _ rfl; (with_reducible repeat first|apply bN_|apply bD_|apply bA_); refine blk_put (cs := #[.int .i64 a0_0, .slice none 0 0, .int .u64 0, .int .u64 0, .int .u64 0, .int .u64 0, .int .u64 0, .int .u64 0, .int .u64 0, .int .u64 0]) ?_ 1 _ rfl; (with_reducible repeat first|apply bN_|apply bD_|apply bA_); refine blk_put (cs := #[.int .i64 0, .slice none 0 0, .int .u64 0, .int .u64 0, .int .u64 0, .int .u64 0, .int .u64 0, .int .u64 0, .int .u64 0, .int .u64 0]) ?_ 0 _ rfl; (with_reducible repeat first|apply bN_|apply bD_|apply bA_); refine blk_far ?_ NB130_128.out _; (with_reducible repeat first|apply bN_|apply bD_|apply bA_); exact BK130.out) Try.underlying26 rfl (by kernel_rfl)) rfl ?_
         exact ⟨_, by first | rfl | (simp [errW_none, errW_some] <;> rfl) | (simp [*, errW_none, errW_some] <;> rfl), by (with_reducible repeat (first | apply Kd.R_alloc | apply Kd.R_drewN | apply Kd.R_drew)); exact Kd.R_mono (Kd.R_far (p := ⟨gb130, 9, none⟩) (Kd.R_far (p := ⟨gb130, 8, none⟩) (Kd.R_far (p := ⟨gb130, 7, none⟩) (Kd.R_far (p := ⟨gb130, 6, none⟩) (Kd.R_far (p := ⟨gb130, 5, none⟩) (Kd.R_far (p := ⟨gb130, 4, none⟩) (Kd.R_far (p := ⟨gb130, 3, none⟩) (Kd.R_far (p := ⟨gb130, 2, none⟩) (Kd.R_far (p := ⟨gb130, 1, none⟩) (Kd.R_far (p := ⟨gb130, 0, none⟩) (Kd.R_far (p := ⟨gb128, 5, none⟩) (Kd.R_types (Kd.R_types HO_129001.out BK128.out (by decide)) BK130.out (by decide)) (fun _ hk => hk.1.2) (.int .u64 t144)) (fun _ hk => hk.2) (.int .i64 a0_0)) (fun _ hk => hk.2) (.slice Ao58 x129001_27.length co58)) (fun _ hk => hk.2) (.int .u64 x129002_47)) (fun _ hk => hk.2) (.int .u64 x129003_47)) (fun _ hk => hk.2) (.int .u64 a0_4)) (fun _ hk => hk.2) (.int .u64 t144)) (fun _ hk => hk.2) (.int .u64 x129006_3)) (fun _ hk => hk.2) (.int .u64 a0_7)) (fun _ hk => hk.2) (.int .u64 a0_8)) (fun _ hk => hk.2) (.int .u64 x129009_3)) (fun _ hk => trivial), by repeat (first | (with_reducible first | exact HB.out | apply b1_ | apply b2_ | apply b3_ | refine bS_ ?_ GE128.out | refine bS_ ?_ GE129.out | refine bS_ ?_ GE130.out) | exact HB.out)⟩
       ·replace c109 := Bool.eq_false_iff.mpr c109
        subst c109
        have H1 : (if a0_0 = 1 then ((probe_Product.f a0_0 x129001_27 x129002_47 x129003_47 a0_4 a0_5 x129006_3 a0_7 a0_8 x129009_3 256).bind fun t145 => (probe_Ack.j7 kj92 (decide (a1_0 ≥ t141)) (decide (a1_6 ≤ t145)) a0_0 x129001_27 x129002_47 x129003_47 a0_4 a0_5 x129006_3 a0_7 a0_8 x129009_3 a1_0 a1_1 a1_2 a1_3 a1_4 a1_5 a1_6 a1_7 a1_8 a1_9)) else (probe_Ack.j7 kj92 (decide (a1_0 ≥ t141)) false a0_0 x129001_27 x129002_47 x129003_47 a0_4 a0_5 x129006_3 a0_7 a0_8 x129009_3 a1_0 a1_1 a1_2 a1_3 a1_4 a1_5 a1_6 a1_7 a1_8 a1_9)) = some (r1, r2, r3, r4, r5, r6, r7, r8, r9, r10) := by rw [if_neg (show ¬ (false = true) by decide)] at H; exact H
        clear H
        have H := H1
        clear H1
        have HC124 := Aside0.mk H
        clear H
        go_upto_region 18 with (fail)
        go_cut [121] (fun v121 wc => ∃ (kq : Nat) (x121_123 : Bool), v121 = .bool x121_123 ∧ Aside0 (probe_Ack.j7 kq (decide (a1_0 ≥ t141)) x121_123 a0_0 x129001_27 x129002_47 x129003_47 a0_4 a0_5 x129006_3 a0_7 a0_8 x129009_3 a1_0 a1_1 a1_2 a1_3 a1_4 a1_5 a1_6 a1_7 a1_8 a1_9 = some (r1, r2, r3, r4, r5, r6, r7, r8, r9, r10)) ∧ Aside0 (kq ≤ kj92) ∧ Aside0 (Kd.R k52 52 wc w.heap.size (fun _ => True) (.slice Ao58 x129001_27.length co58) x129001_27) ∧ Aside0 (wc.heap[gb128]? = some (.cells #[.int .i64 a0_0, (.slice Ao58 x129001_27.length co58), .int .u64 x129002_47, .int .u64 x129003_47, .int .u64 a0_4, .int .u64 a0_5, .int .u64 x129006_3, .int .u64 a0_7, .int .u64 a0_8, .int .u64 x129009_3] 26 (0, 0))) ∧ Aside0 (wc.heap[gb129]? = some (.cells #[.int .u64 a1_0, .int .u64 a1_1, .int .u64 a1_2, .int .u64 a1_3, .int .u64 a1_4, .int .u64 a1_5, .int .u64 a1_6, .int .u64 a1_7, .bool a1_8, .bool a1_9] 28 (0, 0))) ∧ Aside0 (wc.heap[gb130]? = some (.cells #[.int .i64 0, (.slice none 0 0), .int .u64 0, .int .u64 0, .int .u64 0, .int .u64 0, .int .u64 0, .int .u64 0, .int .u64 0, .int .u64 0] 26 (0, 0))) ∧ Aside0 (Below w.heap.size w wc))
        case first =>
         have H := HC124.out
         clear HC124
         by_cases c125 : a0_0 = 1
         ·rw [if_pos c125] at H
          have c125b0 : (a0_0 == 1) = true := beq_iff_eq.mpr c125
          have c125b1 : (a0_0 != 1) = false := bne_eq_false_iff_eq.mpr c125
          clear c125
          (first | rw [c125b0] | (simp only [i64_w, i32_w]; rw [c125b0]) | skip)
          replace H := Option.bind_eq_some_iff.mp H
          obtain ⟨t145, A1260, H⟩ := H
          replace H : (probe_Ack.j7 kj92 (decide (a1_0 ≥ t141)) (decide (a1_6 ≤ t145)) a0_0 x129001_27 x129002_47 x129003_47 a0_4 a0_5 x129006_3 a0_7 a0_8 x129009_3 a1_0 a1_1 a1_2 a1_3 a1_4 a1_5 a1_6 a1_7 a1_8 a1_9) = some (r1, r2, r3, r4, r5, r6, r7, r8, r9, r10) := H
          have A126 := Aside0.mk A1260
          clear A1260
          have H' := Aside0.mk H
          clear H
          try go_wp2
          have n0_ := Aside0.mk (Kd.R_drew HO_129001.out); have n1_ := Aside0.mk (blk_drew BK128.out); have n2_ := Aside0.mk (blk_drew BK129.out); have n3_ := Aside0.mk (blk_drew BK130.out); have n4_ := Aside0.mk (below_drew1 HB.out); clear HO_129001; clear BK128; clear BK129; clear BK130; clear HB
          have HO_129001 := n0_
          have BK128 := n1_; have BK129 := n2_; have BK130 := n3_; have HB := n4_; clear n0_ n1_ n2_ n3_ n4_
          refine start_ (n := 11) (S := fun w' => w'.cell? ⟨gb128, 0, none⟩ = some (.int .i64 a0_0) ∧ w'.cell? ⟨gb128, 1, none⟩ = some (.slice Ao58 x129001_27.length co58) ∧ w'.cell? ⟨gb128, 2, none⟩ = some (.int .u64 x129002_47) ∧ w'.cell? ⟨gb128, 3, none⟩ = some (.int .u64 x129003_47) ∧ w'.cell? ⟨gb128, 4, none⟩ = some (.int .u64 a0_4) ∧ w'.cell? ⟨gb128, 5, none⟩ = some (.int .u64 a0_5) ∧ w'.cell? ⟨gb128, 6, none⟩ = some (.int .u64 x129006_3) ∧ w'.cell? ⟨gb128, 7, none⟩ = some (.int .u64 a0_7) ∧ w'.cell? ⟨gb128, 8, none⟩ = some (.int .u64 a0_8) ∧ w'.cell? ⟨gb128, 9, none⟩ = some (.int .u64 x129009_3) ∧ w'.cell? ⟨gb129, 0, none⟩ = some (.int .u64 a1_0) ∧ w'.cell? ⟨gb129, 1, none⟩ = some (.int .u64 a1_1) ∧ w'.cell? ⟨gb129, 2, none⟩ = some (.int .u64 a1_2) ∧ w'.cell? ⟨gb129, 3, none⟩ = some (.int .u64 a1_3) ∧ w'.cell? ⟨gb129, 4, none⟩ = some (.int .u64 a1_4) ∧ w'.cell? ⟨gb129, 5, none⟩ = some (.int .u64 a1_5) ∧ w'.cell? ⟨gb129, 6, none⟩ = some (.int .u64 a1_6) ∧ w'.cell? ⟨gb129, 7, none⟩ = some (.int .u64 a1_7) ∧ w'.cell? ⟨gb129, 8, none⟩ = some (.bool a1_8) ∧ w'.cell? ⟨gb129, 9, none⟩ = some (.bool a1_9)) (ds := []) #[false, false, false, false, false, false, false, false, false, false, false] (by kernel_rfl) rfl rfl ⟨(blk_cell BK128.out 0).trans rfl, (blk_cell BK128.out 1).trans rfl, (blk_cell BK128.out 2).trans rfl, (blk_cell BK128.out 3).trans rfl, (blk_cell BK128.out 4).trans rfl, (blk_cell BK128.out 5).trans rfl, (blk_cell BK128.out 6).trans rfl, (blk_cell BK128.out 7).trans rfl, (blk_cell BK128.out 8).trans rfl, (blk_cell BK128.out 9).trans rfl, (blk_cell BK129.out 0).trans rfl, (blk_cell BK129.out 1).trans rfl, (blk_cell BK129.out 2).trans rfl, (blk_cell BK129.out 3).trans rfl, (blk_cell BK129.out 4).trans rfl, (blk_cell BK129.out 5).trans rfl, (blk_cell BK129.out 6).trans rfl, (blk_cell BK129.out 7).trans rfl, (blk_cell BK129.out 8).trans rfl, (blk_cell BK129.out 9).trans rfl⟩ (fun hHeld => ?_); refine with_tabW probe_Ack.tab18 probe_Ack.bits18 (fun HT_ HW_ => ?_)
          generalize wc.drew = w127 at HO_129001 BK128 BK129 BK130 HB hHeld ⊢
          refine pure_ (i := 0) (N := some 122) (v := ?_) (a' := ?_) #[true, false, false, false, false, false, false, false, false, false, false] rfl rfl (any_of HT_.out (by kernel_rfl)) (fun _ _ _ h => h) (Or.inl ⟨by rfl, ?_⟩) ?_ ?_
          rotate_left; focus (intro w'; go_simp; with_reducible rfl)
          rotate_left; focus (simp only [Act.put, sA_, s0_, s1_, i64_w, i32_w]; rfl)
          refine take_ (i := 1) (N := some 123) (v := ?_) (a' := ?_) #[true, true, false, false, false, false, false, false, false, false, false] rfl rfl (take_ofW HT_.out HW_.out (by kernel_rfl)) (fun _ _ _ h => h) (Or.inl ⟨by rfl, ?_⟩) hHeld ?_ ?_
          rotate_left; focus (rintro w' ⟨s0, s1, s2, s3, s4, s5, s6, s7, s8, s9, s10, s11, s12, s13, s14, s15, s16, s17, s18, s19⟩; go_simp; with_reducible rfl)
          rotate_left; focus (simp only [Act.put, sA_, s0_, s1_, i64_w, i32_w]; rfl)
          refine pure_ (i := 2) (N := some 124) (v := ?_) (a' := ?_) #[true, true, true, false, false, false, false, false, false, false, false] rfl rfl (any_of HT_.out (by kernel_rfl)) (fun _ _ _ h => h) (Or.inl ⟨by rfl, ?_⟩) ?_ ?_
          rotate_left; focus (intro w'; go_simp; with_reducible rfl)
          rotate_left; focus (simp only [Act.put, sA_, s0_, s1_, i64_w, i32_w]; rfl)
          refine pure_ (i := 3) (N := some 125) (v := ?_) (a' := ?_) #[true, true, true, true, false, false, false, false, false, false, false] rfl rfl (any_of HT_.out (by kernel_rfl)) (fun _ _ _ h => h) (Or.inl ⟨by rfl, ?_⟩) ?_ ?_
          rotate_left; focus (intro w'; go_simp; with_reducible rfl)
          rotate_left; focus (simp only [Act.put, sA_, s0_, s1_, i64_w, i32_w]; rfl)
          refine pure_ (i := 4) (N := some 126) (v := ?_) (a' := ?_) #[true, true, true, true, true, false, false, false, false, false, false] rfl rfl (any_of HT_.out (by kernel_rfl)) (fun _ _ _ h => h) (Or.inl ⟨by rfl, ?_⟩) ?_ ?_
          rotate_left; focus (intro w'; go_simp; with_reducible rfl)
          rotate_left; focus (simp only [Act.put, sA_, s0_, s1_, i64_w, i32_w]; rfl)
          refine take_ (i := 5) (N := some 127) (v := ?_) (a' := ?_) #[true, true, true, true, true, true, false, false, false, false, false] rfl rfl (take_ofW HT_.out HW_.out (by kernel_rfl)) (fun _ _ _ h => h) (Or.inl ⟨by rfl, ?_⟩) hHeld ?_ ?_
          rotate_left; focus (rintro w' ⟨s0, s1, s2, s3, s4, s5, s6, s7, s8, s9, s10, s11, s12, s13, s14, s15, s16, s17, s18, s19⟩; go_simp; with_reducible rfl)
          rotate_left; focus (simp only [Act.put, sA_, s0_, s1_, i64_w, i32_w]; rfl)
          refine take_ (i := 6) (N := some 128) (v := ?_) (a' := ?_) #[true, true, true, true, true, true, true, false, false, false, false] rfl rfl (take_ofW HT_.out HW_.out (by kernel_rfl)) (fun _ _ _ h => h) (Or.inl ⟨by rfl, ?_⟩) hHeld ?_ ?_
          rotate_left; focus (rintro w' ⟨s0, s1, s2, s3, s4, s5, s6, s7, s8, s9, s10, s11, s12, s13, s14, s15, s16, s17, s18, s19⟩; go_simp; with_reducible rfl)
          rotate_left; focus (simp only [Act.put, sA_, s0_, s1_, i64_w, i32_w]; rfl)
          refine one_ (i := 7) (N := some 129) #[true, true, true, true, true, true, true, true, false, false, false] rfl rfl (one_of HT_.out (by kernel_rfl)) (by decide) (fun K hK => ?_)
          refine goes_ Try.func17 (by kernel_rfl) rfl #[.agg #[.int .i64 a0_0, .slice Ao58 x129001_27.length co58, .int .u64 x129002_47, .int .u64 x129003_47, .int .u64 a0_4, .int .u64 a0_5, .int .u64 x129006_3, .int .u64 a0_7, .int .u64 a0_8, .int .u64 x129009_3], .int .u64 256] (by rfl) rfl rfl (by (try simp only [List.map_toArray, List.map_cons, List.map_nil]); first | done | rfl | (simp only [List.length_drop, List.length_take]; rfl)) ?_
          with_reducible refine (probe_Product.calls a0_0 _ _ x129001_27 x129002_47 x129003_47 a0_4 a0_5 x129006_3 a0_7 a0_8 x129009_3 256 t145 _ ?side1 ?side2 A126.out).mono ?_
          (case side1 => repeat (first | exact (Kd.R_reads' HO_129001.out).2.2 | (with_reducible refine Kd.C_alloc ?_ _) | (with_reducible refine Kd.C_drewN ?_ _) | (with_reducible refine Kd.C_drew ?_)))
          (case side2 => exact (Kd.R_reads' HO_129001.out).2.1)
          rintro e w128 ⟨rfl, hb⟩
          refine ⟨_, rfl, ?_⟩
          have n0_ := Aside0.mk (Kd.R_below (by (with_reducible repeat (first | apply Kd.R_alloc | apply Kd.R_drewN | apply Kd.R_drew)); exact HO_129001.out) hb); have n1_ := Aside0.mk (blk_below (g := gb128) (o := .cells #[.int .i64 a0_0, .slice Ao58 x129001_27.length co58, .int .u64 x129002_47, .int .u64 x129003_47, .int .u64 a0_4, .int .u64 a0_5, .int .u64 x129006_3, .int .u64 a0_7, .int .u64 a0_8, .int .u64 x129009_3] 26 (0, 0)) (by (with_reducible repeat first|apply bN_|apply bD_|apply bA_); exact BK128.out) hb); have n2_ := Aside0.mk (blk_below (g := gb129) (o := .cells #[.int .u64 a1_0, .int .u64 a1_1, .int .u64 a1_2, .int .u64 a1_3, .int .u64 a1_4, .int .u64 a1_5, .int .u64 a1_6, .int .u64 a1_7, .bool a1_8, .bool a1_9] 28 (0, 0)) (by (with_reducible repeat first|apply bN_|apply bD_|apply bA_); exact BK129.out) hb); have n3_ := Aside0.mk (blk_below (g := gb130) (o := .cells #[.int .i64 0, .slice none 0 0, .int .u64 0, .int .u64 0, .int .u64 0, .int .u64 0, .int .u64 0, .int .u64 0, .int .u64 0, .int .u64 0] 26 (0, 0)) (by (with_reducible repeat first|apply bN_|apply bD_|apply bA_); exact BK130.out) hb); have n4_ := Aside0.mk (below_step (by repeat (first | (with_reducible first | exact HB.out | apply b1_ | apply b2_ | apply b3_ | refine bS_ ?_ GE128.out | refine bS_ ?_ GE129.out | refine bS_ ?_ GE130.out) | exact HB.out)) hb); clear HO_129001; clear BK128; clear BK129; clear BK130; clear HB
          have HO_129001 := n0_
          have BK128 := n1_; have BK129 := n2_; have BK130 := n3_; have HB := n4_; clear n0_ n1_ n2_ n3_ n4_; (try clear hb); (try clear hb2); (try clear hk); (try clear hi)
          refine hK.out _ _ ⟨(blk_cell BK128.out 0).trans rfl, (blk_cell BK128.out 1).trans rfl, (blk_cell BK128.out 2).trans rfl, (blk_cell BK128.out 3).trans rfl, (blk_cell BK128.out 4).trans rfl, (blk_cell BK128.out 5).trans rfl, (blk_cell BK128.out 6).trans rfl, (blk_cell BK128.out 7).trans rfl, (blk_cell BK128.out 8).trans rfl, (blk_cell BK128.out 9).trans rfl, (blk_cell BK129.out 0).trans rfl, (blk_cell BK129.out 1).trans rfl, (blk_cell BK129.out 2).trans rfl, (blk_cell BK129.out 3).trans rfl, (blk_cell BK129.out 4).trans rfl, (blk_cell BK129.out 5).trans rfl, (blk_cell BK129.out 6).trans rfl, (blk_cell BK129.out 7).trans rfl, (blk_cell BK129.out 8).trans rfl, (blk_cell BK129.out 9).trans rfl⟩ (fun hHeld => ?_)
          clear hK K
          refine norm_ (a' := ?_) ?_ ?_
          rotate_left
          ·show Act.put _ (some 129) _ = _
           simp only [Act.put, sA_, s0_, s1_, i64_w, i32_w]
           rfl
          refine pure_ (i := 8) (N := some 130) (v := ?_) (a' := ?_) #[true, true, true, true, true, true, true, true, true, false, false] rfl rfl (any_of HT_.out (by kernel_rfl)) (fun _ _ _ h => h) (Or.inl ⟨by rfl, ?_⟩) ?_ ?_
          rotate_left; focus (intro w'; go_simp; with_reducible rfl)
          rotate_left; focus (simp only [Act.put, sA_, s0_, s1_, i64_w, i32_w]; rfl)
          refine pure_ (i := 9) (N := some 131) (v := ?_) (a' := ?_) #[true, true, true, true, true, true, true, true, true, true, false] rfl rfl (any_of HT_.out (by kernel_rfl)) (fun _ _ _ h => h) (Or.inl ⟨by rfl, ?_⟩) ?_ ?_
          rotate_left; focus (intro w'; go_simp; with_reducible rfl)
          rotate_left; focus (simp only [Act.put, sA_, s0_, s1_, i64_w, i32_w]; rfl)
          refine pure_ (i := 10) (N := some 121) (v := ?_) (a' := ?_) #[true, true, true, true, true, true, true, true, true, true, true] rfl rfl (any_of HT_.out (by kernel_rfl)) (fun _ _ _ h => h) (Or.inl ⟨by rfl, ?_⟩) ?_ ?_
          rotate_left; focus (intro w'; go_simp; with_reducible rfl)
          rotate_left; focus (simp only [Act.put, sA_, s0_, s1_, i64_w, i32_w]; rfl)
          refine done_ (done_of HT_.out (by kernel_rfl)) ?_
          try go_wp2
          go_meet
          case rel => exact ⟨_, (decide (a1_6 ≤ t145)), (by first | rfl | (simp; done) | (simp [*]; done)), H', ⟨by have := HJ3.out; have := HJ22.out; have := HJ27.out; have := HJ39.out; have := HJ47.out; have := HJ53.out; have := HJ92.out; first | omega | exact Nat.le_refl _⟩, ⟨by (with_reducible repeat (first | apply Kd.R_alloc | apply Kd.R_drewN | apply Kd.R_drew)); exact HO_129001.out⟩, ⟨by (with_reducible repeat first|apply bN_|apply bD_|apply bA_); exact BK128.out⟩, ⟨by (with_reducible repeat first|apply bN_|apply bD_|apply bA_); exact BK129.out⟩, ⟨by (with_reducible repeat first|apply bN_|apply bD_|apply bA_); exact BK130.out⟩, ⟨by repeat (first | (with_reducible first | exact HB.out | apply b1_ | apply b2_ | apply b3_ | refine bS_ ?_ GE128.out | refine bS_ ?_ GE129.out | refine bS_ ?_ GE130.out) | exact HB.out)⟩⟩
         ·rw [if_neg c125] at H
          have c125b0 : (a0_0 == 1) = false := beq_eq_false_iff_ne.mpr c125
          have c125b1 : (a0_0 != 1) = true := bne_iff_ne.mpr c125
          (first | rw [c125b0] | (simp only [i64_w, i32_w]; rw [c125b0]) | skip)
          have H' := Aside0.mk H
          clear H
          try go_wp2
          have n0_ := Aside0.mk (Kd.R_drew HO_129001.out); have n1_ := Aside0.mk (blk_drew BK128.out); have n2_ := Aside0.mk (blk_drew BK129.out); have n3_ := Aside0.mk (blk_drew BK130.out); have n4_ := Aside0.mk (below_drew1 HB.out); clear HO_129001; clear BK128; clear BK129; clear BK130; clear HB
          have HO_129001 := n0_
          have BK128 := n1_; have BK129 := n2_; have BK130 := n3_; have HB := n4_; clear n0_ n1_ n2_ n3_ n4_
          refine start_ (n := 11) (S := fun w' => w'.cell? ⟨gb128, 0, none⟩ = some (.int .i64 a0_0) ∧ w'.cell? ⟨gb128, 1, none⟩ = some (.slice Ao58 x129001_27.length co58) ∧ w'.cell? ⟨gb128, 2, none⟩ = some (.int .u64 x129002_47) ∧ w'.cell? ⟨gb128, 3, none⟩ = some (.int .u64 x129003_47) ∧ w'.cell? ⟨gb128, 4, none⟩ = some (.int .u64 a0_4) ∧ w'.cell? ⟨gb128, 5, none⟩ = some (.int .u64 a0_5) ∧ w'.cell? ⟨gb128, 6, none⟩ = some (.int .u64 x129006_3) ∧ w'.cell? ⟨gb128, 7, none⟩ = some (.int .u64 a0_7) ∧ w'.cell? ⟨gb128, 8, none⟩ = some (.int .u64 a0_8) ∧ w'.cell? ⟨gb128, 9, none⟩ = some (.int .u64 x129009_3)) (ds := []) #[false, false, false, false, false, false, false, false, false, false, false] (by kernel_rfl) rfl rfl ⟨(blk_cell BK128.out 0).trans rfl, (blk_cell BK128.out 1).trans rfl, (blk_cell BK128.out 2).trans rfl, (blk_cell BK128.out 3).trans rfl, (blk_cell BK128.out 4).trans rfl, (blk_cell BK128.out 5).trans rfl, (blk_cell BK128.out 6).trans rfl, (blk_cell BK128.out 7).trans rfl, (blk_cell BK128.out 8).trans rfl, (blk_cell BK128.out 9).trans rfl⟩ (fun hHeld => ?_); refine with_tabW probe_Ack.tab18 probe_Ack.bits18 (fun HT_ HW_ => ?_)
          generalize wc.drew = w129 at HO_129001 BK128 BK129 BK130 HB hHeld ⊢
          refine pure_ (i := 0) (N := some 122) (v := ?_) (a' := ?_) #[true, false, false, false, false, false, false, false, false, false, false] rfl rfl (any_of HT_.out (by kernel_rfl)) (fun _ _ _ h => h) (Or.inl ⟨by rfl, ?_⟩) ?_ ?_
          rotate_left; focus (intro w'; go_simp; with_reducible rfl)
          rotate_left; focus (simp only [Act.put, sA_, s0_, s1_, i64_w, i32_w]; rfl)
          refine take_ (i := 1) (N := some 123) (v := ?_) (a' := ?_) #[true, true, false, false, false, false, false, false, false, false, false] rfl rfl (take_ofW HT_.out HW_.out (by kernel_rfl)) (fun _ _ _ h => h) (Or.inl ⟨by rfl, ?_⟩) hHeld ?_ ?_
          rotate_left; focus (rintro w' ⟨s0, s1, s2, s3, s4, s5, s6, s7, s8, s9⟩; go_simp; with_reducible rfl)
          rotate_left; focus (simp only [Act.put, sA_, s0_, s1_, i64_w, i32_w]; rfl)
          refine pure_ (i := 2) (N := some 124) (v := ?_) (a' := ?_) #[true, true, true, false, false, false, false, false, false, false, false] rfl rfl (any_of HT_.out (by kernel_rfl)) (fun _ _ _ h => h) (Or.inl ⟨by rfl, ?_⟩) ?_ ?_
          rotate_left; focus (intro w'; go_simp; with_reducible rfl)
          rotate_left; focus (simp only [Act.put, sA_, s0_, s1_, i64_w, i32_w]; rfl)
          refine pure_ (i := 3) (N := some 125) (v := ?_) (a' := ?_) #[true, true, true, true, false, false, false, false, false, false, false] rfl rfl (any_of HT_.out (by kernel_rfl)) (fun _ _ _ h => h) (Or.inl ⟨by rfl, ?_⟩) ?_ ?_
          rotate_left; focus (intro w'; go_simp; with_reducible rfl)
          rotate_left; focus (simp only [Act.put, sA_, s0_, s1_, i64_w, i32_w]; rfl)
          refine pure_ (i := 4) (N := some 126) (v := undef) (a' := ?_) #[true, true, true, true, true, false, false, false, false, false, false] rfl rfl (any_of HT_.out (by kernel_rfl)) (fun _ _ _ h => h) (Or.inr ⟨by rfl, rfl⟩) ?_ ?_
          rotate_left
          ·simp only [Act.put, sA_, s0_, s1_, i64_w, i32_w]
           rfl
          refine pure_ (i := 5) (N := some 127) (v := undef) (a' := ?_) #[true, true, true, true, true, true, false, false, false, false, false] rfl rfl (any_of HT_.out (by kernel_rfl)) (fun _ _ _ h => h) (Or.inr ⟨by rfl, rfl⟩) ?_ ?_
          rotate_left
          ·simp only [Act.put, sA_, s0_, s1_, i64_w, i32_w]
           rfl
          refine pure_ (i := 6) (N := some 128) (v := undef) (a' := ?_) #[true, true, true, true, true, true, true, false, false, false, false] rfl rfl (any_of HT_.out (by kernel_rfl)) (fun _ _ _ h => h) (Or.inr ⟨by rfl, rfl⟩) ?_ ?_
          rotate_left
          ·simp only [Act.put, sA_, s0_, s1_, i64_w, i32_w]
           rfl
          refine pure_ (i := 7) (N := some 129) (v := undef) (a' := ?_) #[true, true, true, true, true, true, true, true, false, false, false] rfl rfl (any_of HT_.out (by kernel_rfl)) (fun _ _ _ h => h) (Or.inr ⟨by rfl, rfl⟩) ?_ ?_
          rotate_left
          ·simp only [Act.put, sA_, s0_, s1_, i64_w, i32_w]
           rfl
          refine pure_ (i := 8) (N := some 130) (v := undef) (a' := ?_) #[true, true, true, true, true, true, true, true, true, false, false] rfl rfl (any_of HT_.out (by kernel_rfl)) (fun _ _ _ h => h) (Or.inr ⟨by rfl, rfl⟩) ?_ ?_
          rotate_left
          ·simp only [Act.put, sA_, s0_, s1_, i64_w, i32_w]
           rfl
          refine pure_ (i := 9) (N := some 131) (v := ?_) (a' := ?_) #[true, true, true, true, true, true, true, true, true, true, false] rfl rfl (any_of HT_.out (by kernel_rfl)) (fun _ _ _ h => h) (Or.inl ⟨by rfl, ?_⟩) ?_ ?_
          rotate_left; focus (intro w'; go_simp; with_reducible rfl)
          rotate_left; focus (simp only [Act.put, sA_, s0_, s1_, i64_w, i32_w]; rfl)
          refine pure_ (i := 10) (N := some 121) (v := ?_) (a' := ?_) #[true, true, true, true, true, true, true, true, true, true, true] rfl rfl (any_of HT_.out (by kernel_rfl)) (fun _ _ _ h => h) (Or.inl ⟨by rfl, ?_⟩) ?_ ?_
          rotate_left; focus (intro w'; go_simp; with_reducible rfl)
          rotate_left; focus (simp only [Act.put, sA_, s0_, s1_, i64_w, i32_w]; rfl)
          refine done_ (done_of HT_.out (by kernel_rfl)) ?_
          try go_wp2
          go_meet
          case rel => exact ⟨_, (false), (by first | rfl | (simp; done) | (simp [*]; done)), H', ⟨by have := HJ3.out; have := HJ22.out; have := HJ27.out; have := HJ39.out; have := HJ47.out; have := HJ53.out; have := HJ92.out; first | omega | exact Nat.le_refl _⟩, ⟨by (with_reducible repeat (first | apply Kd.R_alloc | apply Kd.R_drewN | apply Kd.R_drew)); exact HO_129001.out⟩, ⟨by (with_reducible repeat first|apply bN_|apply bD_|apply bA_); exact BK128.out⟩, ⟨by (with_reducible repeat first|apply bN_|apply bD_|apply bA_); exact BK129.out⟩, ⟨by (with_reducible repeat first|apply bN_|apply bD_|apply bA_); exact BK130.out⟩, ⟨by repeat (first | (with_reducible first | exact HB.out | apply b1_ | apply b2_ | apply b3_ | refine bS_ ?_ GE128.out | refine bS_ ?_ GE129.out | refine bS_ ?_ GE130.out) | exact HB.out)⟩⟩
        case rest =>
         (try clear hnb112); (try clear hnc112); (try clear hnb113); (try clear hnc113); (try clear hcz114_0); (try clear hfz114_0); (try clear hcz115_0); (try clear hfz115_0); (try clear hnb116); (try clear hnc116); (try clear hcz117_0); (try clear hfz117_0 hfz117_9); (try clear hnb118); (try clear hnc118); (try clear hnb119); (try clear hnc119); (try clear hcz120_0); (try clear hfz120_0); (try clear hcz121_0); (try clear hfz121_0); (try clear hnb122); (try clear hnc122); (try clear hcz123_0); (try clear hfz123_0 hfz123_9)
         clear HC124; (try clear c1); (try clear c2); (try clear p2); (try clear c10); (try clear c11); (try clear c12); (try clear c17); (try clear c26); (try clear c109); (try clear c111); (try clear c111b0); (try clear c111b1); (try clear c112); (try clear c113); (try clear c116); (try clear c118); (try clear c119); (try clear c122); (try clear c125); (try clear c125b0); (try clear c125b1); (try clear p2)
         (try clear HO_129001); (try clear BK128); (try clear BK129); (try clear BK130); (try clear HB)
         obtain ⟨kq, x121_123, rfl, HA, HJ123, HO_129001, BK128, BK129, BK130, HB⟩ := hcut
         cases kq with
         | zero => exact absurd HA.out (by simp [probe_Ack.j7])
         | succ kj123 =>
          have H := HA.out
          clear HA
          simp only [probe_Ack.j7] at H
          apply_assumption
          exact probe_Ack.rest7 k a0_0 A0_1 c0_1 l0_1 a0_2 a0_3 a0_4 a0_5 a0_6 a0_7 a0_8 a0_9 a1_0 a1_1 a1_2 a1_3 a1_4 a1_5 a1_6 a1_7 a1_8 a1_9 r1 r2 r3 r4 r5 r6 r7 r8 r9 r10 w hu26 hu28 hu52 hmf gb128 GE128 gb129 GE129 NB128_129 NB129_128 gb130 GE130 NB128_130 NB130_128 NB129_130 NB130_129 x129006_3 x129009_3 kj3 HJ3 kj22 HJ22 x129001_27 kj27 HJ27 t141 kj39 HJ39 x129002_47 x129003_47 kj47 HJ47 t142 Ao58 co58 kj53 HJ53 kj92 HJ92 wc u8 u9 u10 u11 u12 u13 u14 u15 u16 u17 u18 u19 u20 u21 u22 u23 u24 u25 u26 u27 u28 u29 u30 u31 u32 u33 u34 u35 u36 u37 u38 u39 u40 u41 u42 u43 u44 u45 u46 u47 u48 u49 u50 u51 u52 u53 u54 u55 u56 u57 u58 u59 u60 u61 u62 u63 u64 u65 u66 u67 u68 u69 u71 u72 u73 u74 u75 u76 u77 u78 u79 u80 u81 u82 u83 u84 u85 u86 u87 u88 u89 u90 u91 u92 u93 u94 u95 u96 u97 u98 u99 u101 u102 u103 u104 u105 u106 u107 u108 u109 u110 u111 u112 u113 u114 u115 u116 u117 u118 u119 u120 u122 u123 u124 u125 u126 u127 u128 u129 u130 u131 u132 u133 u135 u136 u137 u138 u139 u140 u141 u142 u143 u144 u146 u147 u148 u149 u150 u151 u152 u153 u154 u155 u156 u157 u158 u159 u160 u161 u162 u163 u165 u166 u167 u168 u169 u170 u171 u172 u173 u174 u175 u176 u177 u178 x121_123 HO_129001 BK128 BK129 BK130 HB kj123 HJ123 H _ rfl _ rfl _ (fun _ _ h9_ => by apply_assumption; exact h9_)
set_option maxHeartbeats 8000000 in
set_option maxRecDepth 100000 in
theorem probe_Ack.calls (k : Nat) (a0_0 : Int) (A0_1 : Option Addr) (c0_1 : Nat) (l0_1 : List (S52)) (a0_2 : Int) (a0_3 : Int) (a0_4 : Int) (a0_5 : Int) (a0_6 : Int) (a0_7 : Int) (a0_8 : Int) (a0_9 : Int) (a1_0 : Int) (a1_1 : Int) (a1_2 : Int) (a1_3 : Int) (a1_4 : Int) (a1_5 : Int) (a1_6 : Int) (a1_7 : Int) (a1_8 : Bool) (a1_9 : Bool) (r1 : Int) (r2 : List (S52)) (r3 : Int) (r4 : Int) (r5 : Int) (r6 : Int) (r7 : Int) (r8 : Int) (r9 : Int) (r10 : Int) (w : World) (hr0_1 : Kd.C k52 w A0_1 l0_1.length l0_1) (hc0_1 : l0_1.length ≤ c0_1) (h : probe_Ack.f k a0_0 l0_1 a0_2 a0_3 a0_4 a0_5 a0_6 a0_7 a0_8 a0_9 a1_0 a1_1 a1_2 a1_3 a1_4 a1_5 a1_6 a1_7 a1_8 a1_9 = some (r1, r2, r3, r4, r5, r6, r7, r8, r9, r10)) :
  Calls Try.prog 11 #[.agg #[.int .i64 a0_0, .slice A0_1 l0_1.length c0_1, .int .u64 a0_2, .int .u64 a0_3, .int .u64 a0_4, .int .u64 a0_5, .int .u64 a0_6, .int .u64 a0_7, .int .u64 a0_8, .int .u64 a0_9], .agg #[.int .u64 a1_0, .int .u64 a1_1, .int .u64 a1_2, .int .u64 a1_3, .int .u64 a1_4, .int .u64 a1_5, .int .u64 a1_6, .int .u64 a1_7, .bool a1_8, .bool a1_9]] w fun e w' => ∃ v1_ : Value, e = .returned (.agg #[.int .i64 r1, v1_, .int .u64 r3, .int .u64 r4, .int .u64 r5, .int .u64 r6, .int .u64 r7, .int .u64 r8, .int .u64 r9, .int .u64 r10]) ∧ Kd.R k52 52 w' w.heap.size (fun _ => True) v1_ r2 ∧ Below w.heap.size w w' := by
 have hu26 := Try.underlying26
 have hu28 := Try.underlying28
 have hu52 := Try.underlying52
 have hmf : ∀ (fn : Fn) (first cap : Array Value) (w : World), (Instr.makeFunc fn first cap).run Try.prog w = .ok (.func fn first cap) w := fun _ _ _ _ => rfl
 have HR0_1 := Aside0.mk hr0_1
 have HC0_1 := Aside0.mk hc0_1
 clear hr0_1 hc0_1; have HB := Aside0.mk (Below.refl w.heap.size w)
 have H : ((api_Sample_25.f l0_1).bind fun t131 => (if a1_9 = true then ((fix_Add.f a0_6 1).bind fun t134 => ((fix_Add.f a0_9 (IntKind.u64.wrap (Int.tdiv a0_9 8))).bind fun t135 => ((reno_Held.f t135).bind fun t136 => (probe_Ack.j0 k a0_0 t131 a0_2 a0_3 a0_4 a0_5 t134 a0_7 a0_8 t136 a1_0 a1_1 a1_2 a1_3 a1_4 a1_5 a1_6 a1_7 a1_8 a1_9)))) else (probe_Ack.j0 k a0_0 t131 a0_2 a0_3 a0_4 a0_5 a0_6 a0_7 a0_8 a0_9 a1_0 a1_1 a1_2 a1_3 a1_4 a1_5 a1_6 a1_7 a1_8 a1_9))) = some (r1, r2, r3, r4, r5, r6, r7, r8, r9, r10) := h
 clear h
 replace H := Option.bind_eq_some_iff.mp H
 obtain ⟨t131, A30, H⟩ := H
 replace H : (if a1_9 = true then ((fix_Add.f a0_6 1).bind fun t134 => ((fix_Add.f a0_9 (IntKind.u64.wrap (Int.tdiv a0_9 8))).bind fun t135 => ((reno_Held.f t135).bind fun t136 => (probe_Ack.j0 k a0_0 t131 a0_2 a0_3 a0_4 a0_5 t134 a0_7 a0_8 t136 a1_0 a1_1 a1_2 a1_3 a1_4 a1_5 a1_6 a1_7 a1_8 a1_9)))) else (probe_Ack.j0 k a0_0 t131 a0_2 a0_3 a0_4 a0_5 a0_6 a0_7 a0_8 a0_9 a1_0 a1_1 a1_2 a1_3 a1_4 a1_5 a1_6 a1_7 a1_8 a1_9)) = some (r1, r2, r3, r4, r5, r6, r7, r8, r9, r10) := H
 have A3 := Aside0.mk A30
 clear A30
 have HC4 := Aside0.mk H
 clear H
 go_enter Try.func11, Try.ntmps11
 go_upto_if 13 with (first | ((with_reducible refine gate_dst (N := 2) rfl ?_); refine box_event ?hg (N := 2) ?hd (cs := #[.int .i64 a0_0, .slice A0_1 l0_1.length c0_1, .int .u64 a0_2, .int .u64 a0_3, .int .u64 a0_4, .int .u64 a0_5, .int .u64 a0_6, .int .u64 a0_7, .int .u64 a0_8, .int .u64 a0_9]) (t := 26) ?hr ?_; (case hd => rfl); (case hg => rfl); (case hr => first | (go_simp; done) | (go_simp; rfl)); intro gb128 hg w5 hbox hb; have n0_ := Aside0.mk (below_step (by repeat (first | (with_reducible first | exact HB.out | apply b1_ | apply b2_ | apply b3_) | exact HB.out)) hb); have n1_ := Aside0.mk (hbox); have n2_ := Aside0.mk ((by rw [hg]; exact (below_size (by repeat (first | (with_reducible first | exact HB.out | apply b1_ | apply b2_ | apply b3_) | exact HB.out))) : w.heap.size ≤ gb128)); have n3_ := Aside0.mk ((by rw [hg]; exact (below_size (by repeat (first | (with_reducible first | exact HB.out | apply b1_ | apply b2_ | apply b3_) | exact HB.out))) : w.heap.size ≤ gb128)); clear HB; have HB := n0_; have BK128 := n1_; have GW128 := n2_; have GE128 := n3_; clear n0_ n1_ n2_ n3_; clear hb hbox hg) | ((with_reducible refine gate_dst (N := 3) rfl ?_); refine box_event ?hg (N := 3) ?hd (cs := #[.int .u64 a1_0, .int .u64 a1_1, .int .u64 a1_2, .int .u64 a1_3, .int .u64 a1_4, .int .u64 a1_5, .int .u64 a1_6, .int .u64 a1_7, .bool a1_8, .bool a1_9]) (t := 28) ?hr ?_; (case hd => rfl); (case hg => rfl); (case hr => first | (go_simp; done) | (go_simp; rfl)); intro gb129 hg w6 hbox hb; have n0_ := Aside0.mk (blk_below (g := gb128) (o := .cells #[.int .i64 a0_0, .slice A0_1 l0_1.length c0_1, .int .u64 a0_2, .int .u64 a0_3, .int .u64 a0_4, .int .u64 a0_5, .int .u64 a0_6, .int .u64 a0_7, .int .u64 a0_8, .int .u64 a0_9] 26 (0, 0)) (by (with_reducible repeat first|apply bN_|apply bD_|apply bA_); exact BK128.out) hb); have n1_ := Aside0.mk (below_step (by repeat (first | (with_reducible first | exact HB.out | apply b1_ | apply b2_ | apply b3_ | refine bS_ ?_ GE128.out) | exact HB.out)) hb); have n2_ := Aside0.mk (hbox); have n3_ := Aside0.mk ((by rw [hg]; exact (below_size (by repeat (first | (with_reducible first | exact HB.out | apply b1_ | apply b2_ | apply b3_ | refine bS_ ?_ GE128.out) | exact HB.out))) : w.heap.size ≤ gb129)); have n4_ := Aside0.mk ((by rw [hg]; exact (below_size (by repeat (first | (with_reducible first | exact HB.out | apply b1_ | apply b2_ | apply b3_ | refine bS_ ?_ GE128.out) | exact HB.out))) : w.heap.size ≤ gb129)); have n5_ := Aside0.mk ((by rw [hg]; exact Nat.ne_of_lt (blk_lt (g := gb128) (o := .cells #[.int .i64 a0_0, .slice A0_1 l0_1.length c0_1, .int .u64 a0_2, .int .u64 a0_3, .int .u64 a0_4, .int .u64 a0_5, .int .u64 a0_6, .int .u64 a0_7, .int .u64 a0_8, .int .u64 a0_9] 26 (0, 0)) (by (with_reducible repeat first|apply bN_|apply bD_|apply bA_); exact BK128.out)) : gb128 ≠ gb129)); have n6_ := Aside0.mk ((by rw [hg]; exact Nat.ne_of_gt (blk_lt (g := gb128) (o := .cells #[.int .i64 a0_0, .slice A0_1 l0_1.length c0_1, .int .u64 a0_2, .int .u64 a0_3, .int .u64 a0_4, .int .u64 a0_5, .int .u64 a0_6, .int .u64 a0_7, .int .u64 a0_8, .int .u64 a0_9] 26 (0, 0)) (by (with_reducible repeat first|apply bN_|apply bD_|apply bA_); exact BK128.out)) : gb129 ≠ gb128)); clear BK128; clear HB; have BK128 := n0_; have HB := n1_; have BK129 := n2_; have GW129 := n3_; have GE129 := n4_; have NB128_129 := n5_; have NB129_128 := n6_; clear n0_ n1_ n2_ n3_ n4_ n5_ n6_; clear hb hbox hg) | ((with_reducible refine gate_dst (N := 4) rfl ?_); refine box_event ?hg (N := 4) ?hd (cs := #[.int .i64 0, .slice none 0 0, .int .u64 0, .int .u64 0, .int .u64 0, .int .u64 0, .int .u64 0, .int .u64 0, .int .u64 0, .int .u64 0]) (t := 26) ?hr ?_; (case hd => rfl); (case hg => rfl); (case hr => first | (go_simp; done) | (go_simp; rfl)); intro gb130 hg w7 hbox hb; have n0_ := Aside0.mk (blk_below (g := gb128) (o := .cells #[.int .i64 a0_0, .slice A0_1 l0_1.length c0_1, .int .u64 a0_2, .int .u64 a0_3, .int .u64 a0_4, .int .u64 a0_5, .int .u64 a0_6, .int .u64 a0_7, .int .u64 a0_8, .int .u64 a0_9] 26 (0, 0)) (by (with_reducible repeat first|apply bN_|apply bD_|apply bA_); exact BK128.out) hb); have n1_ := Aside0.mk (blk_below (g := gb129) (o := .cells #[.int .u64 a1_0, .int .u64 a1_1, .int .u64 a1_2, .int .u64 a1_3, .int .u64 a1_4, .int .u64 a1_5, .int .u64 a1_6, .int .u64 a1_7, .bool a1_8, .bool a1_9] 28 (0, 0)) (by (with_reducible repeat first|apply bN_|apply bD_|apply bA_); exact BK129.out) hb); have n2_ := Aside0.mk (below_step (by repeat (first | (with_reducible first | exact HB.out | apply b1_ | apply b2_ | apply b3_ | refine bS_ ?_ GE128.out | refine bS_ ?_ GE129.out) | exact HB.out)) hb); have n3_ := Aside0.mk (hbox); have n4_ := Aside0.mk ((by rw [hg]; exact (below_size (by repeat (first | (with_reducible first | exact HB.out | apply b1_ | apply b2_ | apply b3_ | refine bS_ ?_ GE128.out | refine bS_ ?_ GE129.out) | exact HB.out))) : w.heap.size ≤ gb130)); have n5_ := Aside0.mk ((by rw [hg]; exact (below_size (by repeat (first | (with_reducible first | exact HB.out | apply b1_ | apply b2_ | apply b3_ | refine bS_ ?_ GE128.out | refine bS_ ?_ GE129.out) | exact HB.out))) : w.heap.size ≤ gb130)); have n6_ := Aside0.mk ((by rw [hg]; exact Nat.ne_of_lt (blk_lt (g := gb128) (o := .cells #[.int .i64 a0_0, .slice A0_1 l0_1.length c0_1, .int .u64 a0_2, .int .u64 a0_3, .int .u64 a0_4, .int .u64 a0_5, .int .u64 a0_6, .int .u64 a0_7, .int .u64 a0_8, .int .u64 a0_9] 26 (0, 0)) (by (with_reducible repeat first|apply bN_|apply bD_|apply bA_); exact BK128.out)) : gb128 ≠ gb130)); have n7_ := Aside0.mk ((by rw [hg]; exact Nat.ne_of_gt (blk_lt (g := gb128) (o := .cells #[.int .i64 a0_0, .slice A0_1 l0_1.length c0_1, .int .u64 a0_2, .int .u64 a0_3, .int .u64 a0_4, .int .u64 a0_5, .int .u64 a0_6, .int .u64 a0_7, .int .u64 a0_8, .int .u64 a0_9] 26 (0, 0)) (by (with_reducible repeat first|apply bN_|apply bD_|apply bA_); exact BK128.out)) : gb130 ≠ gb128)); have n8_ := Aside0.mk ((by rw [hg]; exact Nat.ne_of_lt (blk_lt (g := gb129) (o := .cells #[.int .u64 a1_0, .int .u64 a1_1, .int .u64 a1_2, .int .u64 a1_3, .int .u64 a1_4, .int .u64 a1_5, .int .u64 a1_6, .int .u64 a1_7, .bool a1_8, .bool a1_9] 28 (0, 0)) (by (with_reducible repeat first|apply bN_|apply bD_|apply bA_); exact BK129.out)) : gb129 ≠ gb130)); have n9_ := Aside0.mk ((by rw [hg]; exact Nat.ne_of_gt (blk_lt (g := gb129) (o := .cells #[.int .u64 a1_0, .int .u64 a1_1, .int .u64 a1_2, .int .u64 a1_3, .int .u64 a1_4, .int .u64 a1_5, .int .u64 a1_6, .int .u64 a1_7, .bool a1_8, .bool a1_9] 28 (0, 0)) (by (with_reducible repeat first|apply bN_|apply bD_|apply bA_); exact BK129.out)) : gb130 ≠ gb129)); clear BK128; clear BK129; clear HB; have BK128 := n0_; have BK129 := n1_; have HB := n2_; have BK130 := n3_; have GW130 := n4_; have GE130 := n5_; have NB128_130 := n6_; have NB130_128 := n7_; have NB129_130 := n8_; have NB130_129 := n9_; clear n0_ n1_ n2_ n3_ n4_ n5_ n6_ n7_ n8_ n9_; clear hb hbox hg; have hnb8 := NB128_129.out; have hnc8 := NB129_128.out; have hnb9 := NB128_130.out; have hnc9 := NB130_128.out; have hcz10_0 := cells10_ BK128.out; have hfz10_0 := froz9_ BK128.out; have hfz10_9 := blk_frozen BK128.out 9) | ((with_reducible refine gate_callee (f := 25) rfl ?_); refine goesL_ (some 10) rfl rfl Try.func25 (by kernel_rfl) rfl #[.slice A0_1 l0_1.length c0_1] rfl (by (try simp only [List.map_toArray, List.map_cons, List.map_nil]); first | done | rfl | (simp only [List.length_drop, List.length_take]; rfl)) ?_; (with_reducible refine (api_Sample_25.calls _ _ l0_1 t131 _ ?side1 ?side2 A3.out).mono ?_); (case side1 => repeat (first | exact (Kd.C_below HR0_1.out HB.out) | (with_reducible refine Kd.C_alloc ?_ _) | (with_reducible refine Kd.C_drewN ?_ _) | (with_reducible refine Kd.C_drew ?_))); (case side2 => exact HC0_1.out); rintro e w11 ⟨v132, rfl, ho0, hb⟩; refine ⟨_, rfl, ?_⟩; have n0_ := Aside0.mk (Kd.R_lower ho0 (below_size (by repeat (first | (with_reducible first | exact HB.out | apply b1_ | apply b2_ | apply b3_ | refine bS_ ?_ GE128.out | refine bS_ ?_ GE129.out | refine bS_ ?_ GE130.out) | exact HB.out)))); have n1_ := Aside0.mk (blk_below (g := gb128) (o := .cells #[.int .i64 a0_0, .slice A0_1 l0_1.length c0_1, .int .u64 a0_2, .int .u64 a0_3, .int .u64 a0_4, .int .u64 a0_5, .int .u64 a0_6, .int .u64 a0_7, .int .u64 a0_8, .int .u64 a0_9] 26 (0, 0)) (by (with_reducible repeat first|apply bN_|apply bD_|apply bA_); exact BK128.out) hb); have n2_ := Aside0.mk (blk_below (g := gb129) (o := .cells #[.int .u64 a1_0, .int .u64 a1_1, .int .u64 a1_2, .int .u64 a1_3, .int .u64 a1_4, .int .u64 a1_5, .int .u64 a1_6, .int .u64 a1_7, .bool a1_8, .bool a1_9] 28 (0, 0)) (by (with_reducible repeat first|apply bN_|apply bD_|apply bA_); exact BK129.out) hb); have n3_ := Aside0.mk (blk_below (g := gb130) (o := .cells #[.int .i64 0, .slice none 0 0, .int .u64 0, .int .u64 0, .int .u64 0, .int .u64 0, .int .u64 0, .int .u64 0, .int .u64 0, .int .u64 0] 26 (0, 0)) (by (with_reducible repeat first|apply bN_|apply bD_|apply bA_); exact BK130.out) hb); have n4_ := Aside0.mk (below_step (by repeat (first | (with_reducible first | exact HB.out | apply b1_ | apply b2_ | apply b3_ | refine bS_ ?_ GE128.out | refine bS_ ?_ GE129.out | refine bS_ ?_ GE130.out) | exact HB.out)) hb); clear BK128; clear BK129; clear BK130; clear HB; have HO133 := n0_; have BK128 := n1_; have BK129 := n2_; have BK130 := n3_; have HB := n4_; clear n0_ n1_ n2_ n3_ n4_; (try clear hb); (try clear hb2); (try clear hk); (try clear hi); (try clear ho0); obtain ⟨Ao12, co12, eo12⟩ := Kd.R_slice HO133.out; subst eo12; have hcz13_0 := cells10_ BK128.out; have hfz13_0 := froz10_ BK128.out; have hnb14 := NB129_130.out; have hnc14 := NB130_129.out; have hcz15_0 := cells10_ BK129.out; have hfz15_0 := froz9_ BK129.out; have hfz15_9 := blk_frozen BK129.out 9))
 (try simp only [Act.put, List.setIfInBounds_toArray, List.set_cons_zero, List.set_cons_succ])
 go_cut [] (fun wc => ∃ (kq : Nat) (x129006_3 : Int) (x129009_3 : Int), Aside0 (probe_Ack.j0 kq a0_0 t131 a0_2 a0_3 a0_4 a0_5 x129006_3 a0_7 a0_8 x129009_3 a1_0 a1_1 a1_2 a1_3 a1_4 a1_5 a1_6 a1_7 a1_8 a1_9 = some (r1, r2, r3, r4, r5, r6, r7, r8, r9, r10)) ∧ Aside0 (kq ≤ k) ∧ Aside0 (Kd.R k52 52 wc w.heap.size (fun _ => True) (.slice Ao12 t131.length co12) t131) ∧ Aside0 (wc.heap[gb128]? = some (.cells #[.int .i64 a0_0, (.slice Ao12 t131.length co12), .int .u64 a0_2, .int .u64 a0_3, .int .u64 a0_4, .int .u64 a0_5, .int .u64 x129006_3, .int .u64 a0_7, .int .u64 a0_8, .int .u64 x129009_3] 26 (0, 0))) ∧ Aside0 (wc.heap[gb129]? = some (.cells #[.int .u64 a1_0, .int .u64 a1_1, .int .u64 a1_2, .int .u64 a1_3, .int .u64 a1_4, .int .u64 a1_5, .int .u64 a1_6, .int .u64 a1_7, .bool a1_8, .bool a1_9] 28 (0, 0))) ∧ Aside0 (wc.heap[gb130]? = some (.cells #[.int .i64 0, (.slice none 0 0), .int .u64 0, .int .u64 0, .int .u64 0, .int .u64 0, .int .u64 0, .int .u64 0, .int .u64 0, .int .u64 0] 26 (0, 0))) ∧ Aside0 (Below w.heap.size w wc))
 case first =>
  have H := HC4.out
  clear HC4
  by_cases c16 : a1_9 = true
  ·subst c16
   have H1 : ((fix_Add.f a0_6 1).bind fun t134 => ((fix_Add.f a0_9 (IntKind.u64.wrap (Int.tdiv a0_9 8))).bind fun t135 => ((reno_Held.f t135).bind fun t136 => (probe_Ack.j0 k a0_0 t131 a0_2 a0_3 a0_4 a0_5 t134 a0_7 a0_8 t136 a1_0 a1_1 a1_2 a1_3 a1_4 a1_5 a1_6 a1_7 a1_8 true)))) = some (r1, r2, r3, r4, r5, r6, r7, r8, r9, r10) := by rw [if_pos rfl] at H; exact H
   clear H
   have H := H1
   clear H1
   replace H := Option.bind_eq_some_iff.mp H
   obtain ⟨t134, A170, H⟩ := H
   replace H : ((fix_Add.f a0_9 (IntKind.u64.wrap (Int.tdiv a0_9 8))).bind fun t135 => ((reno_Held.f t135).bind fun t136 => (probe_Ack.j0 k a0_0 t131 a0_2 a0_3 a0_4 a0_5 t134 a0_7 a0_8 t136 a1_0 a1_1 a1_2 a1_3 a1_4 a1_5 a1_6 a1_7 a1_8 true))) = some (r1, r2, r3, r4, r5, r6, r7, r8, r9, r10) := H
   have A17 := Aside0.mk A170
   clear A170
   replace H := Option.bind_eq_some_iff.mp H
   obtain ⟨t135, A180, H⟩ := H
   replace H : ((reno_Held.f t135).bind fun t136 => (probe_Ack.j0 k a0_0 t131 a0_2 a0_3 a0_4 a0_5 t134 a0_7 a0_8 t136 a1_0 a1_1 a1_2 a1_3 a1_4 a1_5 a1_6 a1_7 a1_8 true)) = some (r1, r2, r3, r4, r5, r6, r7, r8, r9, r10) := H
   have A18 := Aside0.mk A180
   clear A180
   replace H := Option.bind_eq_some_iff.mp H
   obtain ⟨t136, A190, H⟩ := H
   replace H : (probe_Ack.j0 k a0_0 t131 a0_2 a0_3 a0_4 a0_5 t134 a0_7 a0_8 t136 a1_0 a1_1 a1_2 a1_3 a1_4 a1_5 a1_6 a1_7 a1_8 true) = some (r1, r2, r3, r4, r5, r6, r7, r8, r9, r10) := H
   have A19 := Aside0.mk A190
   clear A190
   have H' := Aside0.mk H
   clear H; have hnb20 := NB128_129.out; have hnc20 := NB129_128.out; have hnb21 := NB128_130.out; have hnc21 := NB130_128.out; have hcz22_0 := cells10_ BK128.out; have hfz22_0 := froz10_ BK128.out
   go_wp2_with (first | ((with_reducible refine gate_callee (f := 26) rfl ?_); refine goesL_ (some 16) rfl rfl Try.func26 (by kernel_rfl) rfl #[.int .u64 a0_6, .int .u64 1] rfl (by (try simp only [List.map_toArray, List.map_cons, List.map_nil]); first | done | rfl | (simp only [List.length_drop, List.length_take]; rfl)) ?_; (with_reducible refine (fix_Add.calls a0_6 1 t134 _ A17.out).mono ?_); rintro e w' ⟨rfl, ⟨nd, rfl⟩⟩; refine ⟨_, rfl, ?_⟩) | ((with_reducible refine gate_callee (f := 26) rfl ?_); refine goesL_ (some 23) rfl rfl Try.func26 (by kernel_rfl) rfl #[.int .u64 a0_9, .int .u64 (IntKind.u64.wrap (Int.tdiv a0_9 8))] rfl (by (try simp only [List.map_toArray, List.map_cons, List.map_nil]); first | done | rfl | (simp only [List.length_drop, List.length_take]; rfl)) ?_; (with_reducible refine (fix_Add.calls a0_9 (IntKind.u64.wrap (Int.tdiv a0_9 8)) t135 _ A18.out).mono ?_); rintro e w' ⟨rfl, ⟨nd, rfl⟩⟩; refine ⟨_, rfl, ?_⟩) | ((with_reducible refine gate_callee (f := 27) rfl ?_); refine goesL_ (some 24) rfl rfl Try.func27 (by kernel_rfl) rfl #[.int .u64 t135] rfl (by (try simp only [List.map_toArray, List.map_cons, List.map_nil]); first | done | rfl | (simp only [List.length_drop, List.length_take]; rfl)) ?_; (with_reducible refine (reno_Held.calls t135 t136 _ A19.out).mono ?_); rintro e w' ⟨rfl, ⟨nd, rfl⟩⟩; refine ⟨_, rfl, ?_⟩))
   go_meet
   case rel => exact ⟨_, (t134), (t136), H', ⟨by first | omega | exact Nat.le_refl _⟩, ⟨by (with_reducible repeat (first | apply Kd.R_alloc | apply Kd.R_drewN | apply Kd.R_drew)); exact Kd.R_mono (Kd.R_far (p := ⟨gb128, 9, none⟩) (Kd.R_far (p := ⟨gb128, 6, none⟩) (Kd.R_far (p := ⟨gb128, 1, none⟩) (Kd.R_types HO133.out BK128.out (by decide)) (fun _ hk => hk.2) (.slice Ao12 t131.length co12)) (fun _ hk => hk.2) (.int .u64 t134)) (fun _ hk => hk.2) (.int .u64 t136)) (fun _ hk => trivial)⟩, ⟨by (with_reducible repeat first|apply bN_|apply bD_|apply bA_); refine blk_put (cs := #[.int .i64 a0_0, .slice Ao12 t131.length co12, .int .u64 a0_2, .int .u64 a0_3, .int .u64 a0_4, .int .u64 a0_5, .int .u64 t134, .int .u64 a0_7, .int .u64 a0_8, .int .u64 a0_9]) ?_ 9 _ rfl; (with_reducible repeat first|apply bN_|apply bD_|apply bA_); refine blk_put (cs := #[.int .i64 a0_0, .slice Ao12 t131.length co12, .int .u64 a0_2, .int .u64 a0_3, .int .u64 a0_4, .int .u64 a0_5, .int .u64 a0_6, .int .u64 a0_7, .int .u64 a0_8, .int .u64 a0_9]) ?_ 6 _ rfl; (with_reducible repeat first|apply bN_|apply bD_|apply bA_); refine blk_put (cs := #[.int .i64 a0_0, .slice A0_1 l0_1.length c0_1, .int .u64 a0_2, .int .u64 a0_3, .int .u64 a0_4, .int .u64 a0_5, .int .u64 a0_6, .int .u64 a0_7, .int .u64 a0_8, .int .u64 a0_9]) ?_ 1 _ rfl; (with_reducible repeat first|apply bN_|apply bD_|apply bA_); exact BK128.out⟩, ⟨by (with_reducible repeat first|apply bN_|apply bD_|apply bA_); refine blk_far ?_ NB129_128.out _; (with_reducible repeat first|apply bN_|apply bD_|apply bA_); refine blk_far ?_ NB129_128.out _; (with_reducible repeat first|apply bN_|apply bD_|apply bA_); refine blk_far ?_ NB129_128.out _; (with_reducible repeat first|apply bN_|apply bD_|apply bA_); exact BK129.out⟩, ⟨by (with_reducible repeat first|apply bN_|apply bD_|apply bA_); refine blk_far ?_ NB130_128.out _; (with_reducible repeat first|apply bN_|apply bD_|apply bA_); refine blk_far ?_ NB130_128.out _; (with_reducible repeat first|apply bN_|apply bD_|apply bA_); refine blk_far ?_ NB130_128.out _; (with_reducible repeat first|apply bN_|apply bD_|apply bA_); exact BK130.out⟩, ⟨by repeat (first | (with_reducible first | exact HB.out | apply b1_ | apply b2_ | apply b3_ | refine bS_ ?_ GE128.out | refine bS_ ?_ GE129.out | refine bS_ ?_ GE130.out) | exact HB.out)⟩⟩
  ·replace c16 := Bool.eq_false_iff.mpr c16
   subst c16
   have H1 : (probe_Ack.j0 k a0_0 t131 a0_2 a0_3 a0_4 a0_5 a0_6 a0_7 a0_8 a0_9 a1_0 a1_1 a1_2 a1_3 a1_4 a1_5 a1_6 a1_7 a1_8 false) = some (r1, r2, r3, r4, r5, r6, r7, r8, r9, r10) := by rw [if_neg (show ¬ (false = true) by decide)] at H; exact H
   clear H
   have H := H1
   clear H1
   have H' := Aside0.mk H
   clear H
   go_wp2
   go_meet
   case rel => exact ⟨_, (a0_6), (a0_9), H', ⟨by first | omega | exact Nat.le_refl _⟩, ⟨by (with_reducible repeat (first | apply Kd.R_alloc | apply Kd.R_drewN | apply Kd.R_drew)); exact Kd.R_mono (Kd.R_far (p := ⟨gb128, 1, none⟩) (Kd.R_types HO133.out BK128.out (by decide)) (fun _ hk => hk.2) (.slice Ao12 t131.length co12)) (fun _ hk => trivial)⟩, ⟨by (with_reducible repeat first|apply bN_|apply bD_|apply bA_); refine blk_put (cs := #[.int .i64 a0_0, .slice A0_1 l0_1.length c0_1, .int .u64 a0_2, .int .u64 a0_3, .int .u64 a0_4, .int .u64 a0_5, .int .u64 a0_6, .int .u64 a0_7, .int .u64 a0_8, .int .u64 a0_9]) ?_ 1 _ rfl; (with_reducible repeat first|apply bN_|apply bD_|apply bA_); exact BK128.out⟩, ⟨by (with_reducible repeat first|apply bN_|apply bD_|apply bA_); refine blk_far ?_ NB129_128.out _; (with_reducible repeat first|apply bN_|apply bD_|apply bA_); exact BK129.out⟩, ⟨by (with_reducible repeat first|apply bN_|apply bD_|apply bA_); refine blk_far ?_ NB130_128.out _; (with_reducible repeat first|apply bN_|apply bD_|apply bA_); exact BK130.out⟩, ⟨by repeat (first | (with_reducible first | exact HB.out | apply b1_ | apply b2_ | apply b3_ | refine bS_ ?_ GE128.out | refine bS_ ?_ GE129.out | refine bS_ ?_ GE130.out) | exact HB.out)⟩⟩
 case rest =>
  (try clear hnb8); (try clear hnc8); (try clear hnb9); (try clear hnc9); (try clear hcz10_0); (try clear hfz10_0 hfz10_9); (try clear hcz13_0); (try clear hfz13_0); (try clear hnb14); (try clear hnc14); (try clear hcz15_0); (try clear hfz15_0 hfz15_9)
  clear HC4; (try clear c1); (try clear c2); (try clear p2); (try clear c8); (try clear c9); (try clear c11); (try clear c14); (try clear c16); (try clear c20); (try clear c21)
  (try clear HO_129001); (try clear BK128); (try clear BK129); (try clear BK130); (try clear HB)
  obtain ⟨kq, x129006_3, x129009_3, HA, HJ3, HO_129001, BK128, BK129, BK130, HB⟩ := hcut
  cases kq with
  | zero => exact absurd HA.out (by simp [probe_Ack.j0])
  | succ kj3 =>
   have H := HA.out
   clear HA
   simp only [probe_Ack.j0] at H
   have HC23 := Aside0.mk H
   clear H
   go_upto_region 5 with (fail)
   go_cut [36] (fun v36 wc => ∃ (kq : Nat) (x36_22 : Bool), v36 = .bool x36_22 ∧ Aside0 (probe_Ack.j1 kq x36_22 a0_0 t131 a0_2 a0_3 a0_4 a0_5 x129006_3 a0_7 a0_8 x129009_3 a1_0 a1_1 a1_2 a1_3 a1_4 a1_5 a1_6 a1_7 a1_8 a1_9 = some (r1, r2, r3, r4, r5, r6, r7, r8, r9, r10)) ∧ Aside0 (kq ≤ kj3) ∧ Aside0 (Kd.R k52 52 wc w.heap.size (fun _ => True) (.slice Ao12 t131.length co12) t131) ∧ Aside0 (wc.heap[gb128]? = some (.cells #[.int .i64 a0_0, (.slice Ao12 t131.length co12), .int .u64 a0_2, .int .u64 a0_3, .int .u64 a0_4, .int .u64 a0_5, .int .u64 x129006_3, .int .u64 a0_7, .int .u64 a0_8, .int .u64 x129009_3] 26 (0, 0))) ∧ Aside0 (wc.heap[gb129]? = some (.cells #[.int .u64 a1_0, .int .u64 a1_1, .int .u64 a1_2, .int .u64 a1_3, .int .u64 a1_4, .int .u64 a1_5, .int .u64 a1_6, .int .u64 a1_7, .bool a1_8, .bool a1_9] 28 (0, 0))) ∧ Aside0 (wc.heap[gb130]? = some (.cells #[.int .i64 0, (.slice none 0 0), .int .u64 0, .int .u64 0, .int .u64 0, .int .u64 0, .int .u64 0, .int .u64 0, .int .u64 0, .int .u64 0] 26 (0, 0))) ∧ Aside0 (Below w.heap.size w wc))
   case first =>
    have H := HC23.out
    clear HC23
    by_cases c24 : a1_8 = true
    ·subst c24
     have H1 : ((filt_Best.f t131).bind fun t137 => (probe_Ack.j1 kj3 (decide (a1_7 ≥ t137)) a0_0 t131 a0_2 a0_3 a0_4 a0_5 x129006_3 a0_7 a0_8 x129009_3 a1_0 a1_1 a1_2 a1_3 a1_4 a1_5 a1_6 a1_7 true a1_9)) = some (r1, r2, r3, r4, r5, r6, r7, r8, r9, r10) := by rw [if_pos rfl] at H; exact H
     clear H
     have H := H1
     clear H1
     replace H := Option.bind_eq_some_iff.mp H
     obtain ⟨t137, A250, H⟩ := H
     replace H : (probe_Ack.j1 kj3 (decide (a1_7 ≥ t137)) a0_0 t131 a0_2 a0_3 a0_4 a0_5 x129006_3 a0_7 a0_8 x129009_3 a1_0 a1_1 a1_2 a1_3 a1_4 a1_5 a1_6 a1_7 true a1_9) = some (r1, r2, r3, r4, r5, r6, r7, r8, r9, r10) := H
     have A25 := Aside0.mk A250
     clear A250
     have H' := Aside0.mk H
     clear H
     try go_wp2
     have n0_ := Aside0.mk (Kd.R_drew HO_129001.out); have n1_ := Aside0.mk (blk_drew BK128.out); have n2_ := Aside0.mk (blk_drew BK129.out); have n3_ := Aside0.mk (blk_drew BK130.out); have n4_ := Aside0.mk (below_drew1 HB.out); clear HO_129001; clear BK128; clear BK129; clear BK130; clear HB
     have HO_129001 := n0_
     have BK128 := n1_; have BK129 := n2_; have BK130 := n3_; have HB := n4_; clear n0_ n1_ n2_ n3_ n4_
     refine start_ (n := 11) (S := fun w' => w'.cell? ⟨gb129, 0, none⟩ = some (.int .u64 a1_0) ∧ w'.cell? ⟨gb129, 1, none⟩ = some (.int .u64 a1_1) ∧ w'.cell? ⟨gb129, 2, none⟩ = some (.int .u64 a1_2) ∧ w'.cell? ⟨gb129, 3, none⟩ = some (.int .u64 a1_3) ∧ w'.cell? ⟨gb129, 4, none⟩ = some (.int .u64 a1_4) ∧ w'.cell? ⟨gb129, 5, none⟩ = some (.int .u64 a1_5) ∧ w'.cell? ⟨gb129, 6, none⟩ = some (.int .u64 a1_6) ∧ w'.cell? ⟨gb129, 7, none⟩ = some (.int .u64 a1_7) ∧ w'.cell? ⟨gb129, 8, none⟩ = some (.bool true) ∧ w'.cell? ⟨gb129, 9, none⟩ = some (.bool a1_9) ∧ w'.cell? ⟨gb128, 0, none⟩ = some (.int .i64 a0_0) ∧ w'.cell? ⟨gb128, 1, none⟩ = some (.slice Ao12 t131.length co12) ∧ w'.cell? ⟨gb128, 2, none⟩ = some (.int .u64 a0_2) ∧ w'.cell? ⟨gb128, 3, none⟩ = some (.int .u64 a0_3) ∧ w'.cell? ⟨gb128, 4, none⟩ = some (.int .u64 a0_4) ∧ w'.cell? ⟨gb128, 5, none⟩ = some (.int .u64 a0_5) ∧ w'.cell? ⟨gb128, 6, none⟩ = some (.int .u64 x129006_3) ∧ w'.cell? ⟨gb128, 7, none⟩ = some (.int .u64 a0_7) ∧ w'.cell? ⟨gb128, 8, none⟩ = some (.int .u64 a0_8) ∧ w'.cell? ⟨gb128, 9, none⟩ = some (.int .u64 x129009_3)) (ds := []) #[false, false, false, false, false, false, false, false, false, false, false] (by kernel_rfl) rfl rfl ⟨(blk_cell BK129.out 0).trans rfl, (blk_cell BK129.out 1).trans rfl, (blk_cell BK129.out 2).trans rfl, (blk_cell BK129.out 3).trans rfl, (blk_cell BK129.out 4).trans rfl, (blk_cell BK129.out 5).trans rfl, (blk_cell BK129.out 6).trans rfl, (blk_cell BK129.out 7).trans rfl, (blk_cell BK129.out 8).trans rfl, (blk_cell BK129.out 9).trans rfl, (blk_cell BK128.out 0).trans rfl, (blk_cell BK128.out 1).trans rfl, (blk_cell BK128.out 2).trans rfl, (blk_cell BK128.out 3).trans rfl, (blk_cell BK128.out 4).trans rfl, (blk_cell BK128.out 5).trans rfl, (blk_cell BK128.out 6).trans rfl, (blk_cell BK128.out 7).trans rfl, (blk_cell BK128.out 8).trans rfl, (blk_cell BK128.out 9).trans rfl⟩ (fun hHeld => ?_); refine with_tabW probe_Ack.tab5 probe_Ack.bits5 (fun HT_ HW_ => ?_)
     generalize wc.drew = w26 at HO_129001 BK128 BK129 BK130 HB hHeld ⊢
     refine pure_ (i := 0) (N := some 26) (v := ?_) (a' := ?_) #[true, false, false, false, false, false, false, false, false, false, false] rfl rfl (any_of HT_.out (by kernel_rfl)) (fun _ _ _ h => h) (Or.inl ⟨by rfl, ?_⟩) ?_ ?_
     rotate_left; focus (intro w'; go_simp; with_reducible rfl)
     rotate_left; focus (simp only [Act.put, sA_, s0_, s1_, i64_w, i32_w]; rfl)
     refine take_ (i := 1) (N := some 27) (v := ?_) (a' := ?_) #[true, true, false, false, false, false, false, false, false, false, false] rfl rfl (take_ofW HT_.out HW_.out (by kernel_rfl)) (fun _ _ _ h => h) (Or.inl ⟨by rfl, ?_⟩) hHeld ?_ ?_
     rotate_left; focus (rintro w' ⟨s0, s1, s2, s3, s4, s5, s6, s7, s8, s9, s10, s11, s12, s13, s14, s15, s16, s17, s18, s19⟩; go_simp; with_reducible rfl)
     rotate_left; focus (simp only [Act.put, sA_, s0_, s1_, i64_w, i32_w]; rfl)
     refine pure_ (i := 2) (N := some 28) (v := ?_) (a' := ?_) #[true, true, true, false, false, false, false, false, false, false, false] rfl rfl (any_of HT_.out (by kernel_rfl)) (fun _ _ _ h => h) (Or.inl ⟨by rfl, ?_⟩) ?_ ?_
     rotate_left; focus (intro w'; go_simp; with_reducible rfl)
     rotate_left; focus (simp only [Act.put, sA_, s0_, s1_, i64_w, i32_w]; rfl)
     refine pure_ (i := 3) (N := some 29) (v := ?_) (a' := ?_) #[true, true, true, true, false, false, false, false, false, false, false] rfl rfl (any_of HT_.out (by kernel_rfl)) (fun _ _ _ h => h) (Or.inl ⟨by rfl, ?_⟩) ?_ ?_
     rotate_left; focus (intro w'; go_simp; with_reducible rfl)
     rotate_left; focus (simp only [Act.put, sA_, s0_, s1_, i64_w, i32_w]; rfl)
     refine pure_ (i := 4) (N := some 30) (v := ?_) (a' := ?_) #[true, true, true, true, true, false, false, false, false, false, false] rfl rfl (any_of HT_.out (by kernel_rfl)) (fun _ _ _ h => h) (Or.inl ⟨by rfl, ?_⟩) ?_ ?_
     rotate_left; focus (intro w'; go_simp; with_reducible rfl)
     rotate_left; focus (simp only [Act.put, sA_, s0_, s1_, i64_w, i32_w]; rfl)
     refine pure_ (i := 6) (N := some 32) (v := ?_) (a' := ?_) #[true, true, true, true, true, false, true, false, false, false, false] rfl rfl (any_of HT_.out (by kernel_rfl)) (fun _ _ _ h => h) (Or.inl ⟨by rfl, ?_⟩) ?_ ?_
     rotate_left; focus (intro w'; go_simp; with_reducible rfl)
     rotate_left; focus (simp only [Act.put, sA_, s0_, s1_, i64_w, i32_w]; rfl)
     refine take_ (i := 5) (N := some 31) (v := ?_) (a' := ?_) #[true, true, true, true, true, true, true, false, false, false, false] rfl rfl (take_ofW HT_.out HW_.out (by kernel_rfl)) (fun _ _ _ h => h) (Or.inl ⟨by rfl, ?_⟩) hHeld ?_ ?_
     rotate_left; focus (rintro w' ⟨s0, s1, s2, s3, s4, s5, s6, s7, s8, s9, s10, s11, s12, s13, s14, s15, s16, s17, s18, s19⟩; go_simp; with_reducible rfl)
     rotate_left; focus (simp only [Act.put, sA_, s0_, s1_, i64_w, i32_w]; rfl)
     refine take_ (i := 7) (N := some 33) (v := ?_) (a' := ?_) #[true, true, true, true, true, true, true, true, false, false, false] rfl rfl (take_ofW HT_.out HW_.out (by kernel_rfl)) (fun _ _ _ h => h) (Or.inl ⟨by rfl, ?_⟩) hHeld ?_ ?_
     rotate_left; focus (rintro w' ⟨s0, s1, s2, s3, s4, s5, s6, s7, s8, s9, s10, s11, s12, s13, s14, s15, s16, s17, s18, s19⟩; go_simp; with_reducible rfl)
     rotate_left; focus (simp only [Act.put, sA_, s0_, s1_, i64_w, i32_w]; rfl)
     refine one_ (i := 8) (N := some 34) #[true, true, true, true, true, true, true, true, true, false, false] rfl rfl (one_of HT_.out (by kernel_rfl)) (by decide) (fun K hK => ?_)
     refine goes_ Try.func23 (by kernel_rfl) rfl #[.slice Ao12 t131.length co12] (by rfl) rfl rfl (by (try simp only [List.map_toArray, List.map_cons, List.map_nil]); first | done | rfl | (simp only [List.length_drop, List.length_take]; rfl)) ?_
     with_reducible refine (filt_Best.calls _ _ t131 t137 _ ?side1 ?side2 A25.out).mono ?_
     (case side1 => repeat (first | exact (Kd.R_reads' HO_129001.out).2.2 | (with_reducible refine Kd.C_alloc ?_ _) | (with_reducible refine Kd.C_drewN ?_ _) | (with_reducible refine Kd.C_drew ?_)))
     (case side2 => exact (Kd.R_reads' HO_129001.out).2.1)
     rintro e w' ⟨rfl, ⟨nd, rfl⟩⟩
     refine ⟨_, rfl, ?_⟩
     refine hK.out _ _ ⟨(blk_cell BK129.out 0).trans rfl, (blk_cell BK129.out 1).trans rfl, (blk_cell BK129.out 2).trans rfl, (blk_cell BK129.out 3).trans rfl, (blk_cell BK129.out 4).trans rfl, (blk_cell BK129.out 5).trans rfl, (blk_cell BK129.out 6).trans rfl, (blk_cell BK129.out 7).trans rfl, (blk_cell BK129.out 8).trans rfl, (blk_cell BK129.out 9).trans rfl, (blk_cell BK128.out 0).trans rfl, (blk_cell BK128.out 1).trans rfl, (blk_cell BK128.out 2).trans rfl, (blk_cell BK128.out 3).trans rfl, (blk_cell BK128.out 4).trans rfl, (blk_cell BK128.out 5).trans rfl, (blk_cell BK128.out 6).trans rfl, (blk_cell BK128.out 7).trans rfl, (blk_cell BK128.out 8).trans rfl, (blk_cell BK128.out 9).trans rfl⟩ (fun hHeld => ?_)
     clear hK K
     refine norm_ (a' := ?_) ?_ ?_
     rotate_left
     ·show Act.put _ (some 34) _ = _
      simp only [Act.put, sA_, s0_, s1_, i64_w, i32_w]
      rfl
     refine pure_ (i := 9) (N := some 35) (v := ?_) (a' := ?_) #[true, true, true, true, true, true, true, true, true, true, false] rfl rfl (any_of HT_.out (by kernel_rfl)) (fun _ _ _ h => h) (Or.inl ⟨by rfl, ?_⟩) ?_ ?_
     rotate_left; focus (intro w'; go_simp; with_reducible rfl)
     rotate_left; focus (simp only [Act.put, sA_, s0_, s1_, i64_w, i32_w]; rfl)
     refine pure_ (i := 10) (N := some 36) (v := ?_) (a' := ?_) #[true, true, true, true, true, true, true, true, true, true, true] rfl rfl (any_of HT_.out (by kernel_rfl)) (fun _ _ _ h => h) (Or.inl ⟨by rfl, ?_⟩) ?_ ?_
     rotate_left; focus (intro w'; go_simp; with_reducible rfl)
     rotate_left; focus (simp only [Act.put, sA_, s0_, s1_, i64_w, i32_w]; rfl)
     refine done_ (done_of HT_.out (by kernel_rfl)) ?_
     try go_wp2
     go_meet
     case rel => exact ⟨_, (decide (a1_7 ≥ t137)), (by first | rfl | (simp; done) | (simp [*]; done)), H', ⟨by have := HJ3.out; first | omega | exact Nat.le_refl _⟩, ⟨by (with_reducible repeat (first | apply Kd.R_alloc | apply Kd.R_drewN | apply Kd.R_drew)); exact HO_129001.out⟩, ⟨by (with_reducible repeat first|apply bN_|apply bD_|apply bA_); exact BK128.out⟩, ⟨by (with_reducible repeat first|apply bN_|apply bD_|apply bA_); exact BK129.out⟩, ⟨by (with_reducible repeat first|apply bN_|apply bD_|apply bA_); exact BK130.out⟩, ⟨by repeat (first | (with_reducible first | exact HB.out | apply b1_ | apply b2_ | apply b3_ | refine bS_ ?_ GE128.out | refine bS_ ?_ GE129.out | refine bS_ ?_ GE130.out) | exact HB.out)⟩⟩
    ·replace c24 := Bool.eq_false_iff.mpr c24
     subst c24
     have H1 : (probe_Ack.j1 kj3 true a0_0 t131 a0_2 a0_3 a0_4 a0_5 x129006_3 a0_7 a0_8 x129009_3 a1_0 a1_1 a1_2 a1_3 a1_4 a1_5 a1_6 a1_7 false a1_9) = some (r1, r2, r3, r4, r5, r6, r7, r8, r9, r10) := by rw [if_neg (show ¬ (false = true) by decide)] at H; exact H
     clear H
     have H := H1
     clear H1
     have H' := Aside0.mk H
     clear H
     try go_wp2
     have n0_ := Aside0.mk (Kd.R_drew HO_129001.out); have n1_ := Aside0.mk (blk_drew BK128.out); have n2_ := Aside0.mk (blk_drew BK129.out); have n3_ := Aside0.mk (blk_drew BK130.out); have n4_ := Aside0.mk (below_drew1 HB.out); clear HO_129001; clear BK128; clear BK129; clear BK130; clear HB
     have HO_129001 := n0_
     have BK128 := n1_; have BK129 := n2_; have BK130 := n3_; have HB := n4_; clear n0_ n1_ n2_ n3_ n4_
     refine start_ (n := 11) (S := fun w' => w'.cell? ⟨gb129, 0, none⟩ = some (.int .u64 a1_0) ∧ w'.cell? ⟨gb129, 1, none⟩ = some (.int .u64 a1_1) ∧ w'.cell? ⟨gb129, 2, none⟩ = some (.int .u64 a1_2) ∧ w'.cell? ⟨gb129, 3, none⟩ = some (.int .u64 a1_3) ∧ w'.cell? ⟨gb129, 4, none⟩ = some (.int .u64 a1_4) ∧ w'.cell? ⟨gb129, 5, none⟩ = some (.int .u64 a1_5) ∧ w'.cell? ⟨gb129, 6, none⟩ = some (.int .u64 a1_6) ∧ w'.cell? ⟨gb129, 7, none⟩ = some (.int .u64 a1_7) ∧ w'.cell? ⟨gb129, 8, none⟩ = some (.bool false) ∧ w'.cell? ⟨gb129, 9, none⟩ = some (.bool a1_9)) (ds := []) #[false, false, false, false, false, false, false, false, false, false, false] (by kernel_rfl) rfl rfl ⟨(blk_cell BK129.out 0).trans rfl, (blk_cell BK129.out 1).trans rfl, (blk_cell BK129.out 2).trans rfl, (blk_cell BK129.out 3).trans rfl, (blk_cell BK129.out 4).trans rfl, (blk_cell BK129.out 5).trans rfl, (blk_cell BK129.out 6).trans rfl, (blk_cell BK129.out 7).trans rfl, (blk_cell BK129.out 8).trans rfl, (blk_cell BK129.out 9).trans rfl⟩ (fun hHeld => ?_); refine with_tabW probe_Ack.tab5 probe_Ack.bits5 (fun HT_ HW_ => ?_)
     generalize wc.drew = w27 at HO_129001 BK128 BK129 BK130 HB hHeld ⊢
     refine pure_ (i := 0) (N := some 26) (v := ?_) (a' := ?_) #[true, false, false, false, false, false, false, false, false, false, false] rfl rfl (any_of HT_.out (by kernel_rfl)) (fun _ _ _ h => h) (Or.inl ⟨by rfl, ?_⟩) ?_ ?_
     rotate_left; focus (intro w'; go_simp; with_reducible rfl)
     rotate_left; focus (simp only [Act.put, sA_, s0_, s1_, i64_w, i32_w]; rfl)
     refine take_ (i := 1) (N := some 27) (v := ?_) (a' := ?_) #[true, true, false, false, false, false, false, false, false, false, false] rfl rfl (take_ofW HT_.out HW_.out (by kernel_rfl)) (fun _ _ _ h => h) (Or.inl ⟨by rfl, ?_⟩) hHeld ?_ ?_
     rotate_left; focus (rintro w' ⟨s0, s1, s2, s3, s4, s5, s6, s7, s8, s9⟩; go_simp; with_reducible rfl)
     rotate_left; focus (simp only [Act.put, sA_, s0_, s1_, i64_w, i32_w]; rfl)
     refine pure_ (i := 2) (N := some 28) (v := ?_) (a' := ?_) #[true, true, true, false, false, false, false, false, false, false, false] rfl rfl (any_of HT_.out (by kernel_rfl)) (fun _ _ _ h => h) (Or.inl ⟨by rfl, ?_⟩) ?_ ?_
     rotate_left; focus (intro w'; go_simp; with_reducible rfl)
     rotate_left; focus (simp only [Act.put, sA_, s0_, s1_, i64_w, i32_w]; rfl)
     refine pure_ (i := 3) (N := some 29) (v := ?_) (a' := ?_) #[true, true, true, true, false, false, false, false, false, false, false] rfl rfl (any_of HT_.out (by kernel_rfl)) (fun _ _ _ h => h) (Or.inl ⟨by rfl, ?_⟩) ?_ ?_
     rotate_left; focus (intro w'; go_simp; with_reducible rfl)
     rotate_left; focus (simp only [Act.put, sA_, s0_, s1_, i64_w, i32_w]; rfl)
     refine pure_ (i := 4) (N := some 30) (v := undef) (a' := ?_) #[true, true, true, true, true, false, false, false, false, false, false] rfl rfl (any_of HT_.out (by kernel_rfl)) (fun _ _ _ h => h) (Or.inr ⟨by rfl, rfl⟩) ?_ ?_
     rotate_left
     ·simp only [Act.put, sA_, s0_, s1_, i64_w, i32_w]
      rfl
     refine pure_ (i := 5) (N := some 31) (v := undef) (a' := ?_) #[true, true, true, true, true, true, false, false, false, false, false] rfl rfl (any_of HT_.out (by kernel_rfl)) (fun _ _ _ h => h) (Or.inr ⟨by rfl, rfl⟩) ?_ ?_
     rotate_left
     ·simp only [Act.put, sA_, s0_, s1_, i64_w, i32_w]
      rfl
     refine pure_ (i := 6) (N := some 32) (v := undef) (a' := ?_) #[true, true, true, true, true, true, true, false, false, false, false] rfl rfl (any_of HT_.out (by kernel_rfl)) (fun _ _ _ h => h) (Or.inr ⟨by rfl, rfl⟩) ?_ ?_
     rotate_left
     ·simp only [Act.put, sA_, s0_, s1_, i64_w, i32_w]
      rfl
     refine pure_ (i := 7) (N := some 33) (v := undef) (a' := ?_) #[true, true, true, true, true, true, true, true, false, false, false] rfl rfl (any_of HT_.out (by kernel_rfl)) (fun _ _ _ h => h) (Or.inr ⟨by rfl, rfl⟩) ?_ ?_
     rotate_left
     ·simp only [Act.put, sA_, s0_, s1_, i64_w, i32_w]
      rfl
     refine pure_ (i := 8) (N := some 34) (v := undef) (a' := ?_) #[true, true, true, true, true, true, true, true, true, false, false] rfl rfl (any_of HT_.out (by kernel_rfl)) (fun _ _ _ h => h) (Or.inr ⟨by rfl, rfl⟩) ?_ ?_
     rotate_left
     ·simp only [Act.put, sA_, s0_, s1_, i64_w, i32_w]
      rfl
     refine pure_ (i := 9) (N := some 35) (v := undef) (a' := ?_) #[true, true, true, true, true, true, true, true, true, true, false] rfl rfl (any_of HT_.out (by kernel_rfl)) (fun _ _ _ h => h) (Or.inr ⟨by rfl, rfl⟩) ?_ ?_
     rotate_left
     ·simp only [Act.put, sA_, s0_, s1_, i64_w, i32_w]
      rfl
     refine pure_ (i := 10) (N := some 36) (v := ?_) (a' := ?_) #[true, true, true, true, true, true, true, true, true, true, true] rfl rfl (any_of HT_.out (by kernel_rfl)) (fun _ _ _ h => h) (Or.inl ⟨by rfl, ?_⟩) ?_ ?_
     rotate_left; focus (intro w'; go_simp; with_reducible rfl)
     rotate_left; focus (simp only [Act.put, sA_, s0_, s1_, i64_w, i32_w]; rfl)
     refine done_ (done_of HT_.out (by kernel_rfl)) ?_
     try go_wp2
     go_meet
     case rel => exact ⟨_, (true), (by first | rfl | (simp; done) | (simp [*]; done)), H', ⟨by have := HJ3.out; first | omega | exact Nat.le_refl _⟩, ⟨by (with_reducible repeat (first | apply Kd.R_alloc | apply Kd.R_drewN | apply Kd.R_drew)); exact HO_129001.out⟩, ⟨by (with_reducible repeat first|apply bN_|apply bD_|apply bA_); exact BK128.out⟩, ⟨by (with_reducible repeat first|apply bN_|apply bD_|apply bA_); exact BK129.out⟩, ⟨by (with_reducible repeat first|apply bN_|apply bD_|apply bA_); exact BK130.out⟩, ⟨by repeat (first | (with_reducible first | exact HB.out | apply b1_ | apply b2_ | apply b3_ | refine bS_ ?_ GE128.out | refine bS_ ?_ GE129.out | refine bS_ ?_ GE130.out) | exact HB.out)⟩⟩
   case rest =>
    clear HC23; (try clear c1); (try clear c2); (try clear p2); (try clear c8); (try clear c9); (try clear c11); (try clear c14); (try clear c16); (try clear c20); (try clear c21); (try clear c23); (try clear c24); (try clear c25); (try clear c26); (try clear c27); (try clear p2)
    (try clear HO_129001); (try clear BK128); (try clear BK129); (try clear BK130); (try clear HB)
    obtain ⟨kq, x36_22, rfl, HA, HJ22, HO_129001, BK128, BK129, BK130, HB⟩ := hcut
    cases kq with
    | zero => exact absurd HA.out (by simp [probe_Ack.j1])
    | succ kj22 =>
     have H := HA.out
     clear HA
     simp only [probe_Ack.j1] at H
     have HC28 := Aside0.mk H
     clear H
     go_upto_if 36 with (fail)
     go_cut [] (fun wc => ∃ (kq : Nat) (x129001_27 : List (S52)) (u129001 : Value), Aside0 (probe_Ack.j2 kq a0_0 x129001_27 a0_2 a0_3 a0_4 a0_5 x129006_3 a0_7 a0_8 x129009_3 a1_0 a1_1 a1_2 a1_3 a1_4 a1_5 a1_6 a1_7 a1_8 a1_9 = some (r1, r2, r3, r4, r5, r6, r7, r8, r9, r10)) ∧ Aside0 (kq ≤ kj22) ∧ Aside0 (Kd.R k52 52 wc w.heap.size (fun _ => True) u129001 x129001_27) ∧ Aside0 (wc.heap[gb128]? = some (.cells #[.int .i64 a0_0, u129001, .int .u64 a0_2, .int .u64 a0_3, .int .u64 a0_4, .int .u64 a0_5, .int .u64 x129006_3, .int .u64 a0_7, .int .u64 a0_8, .int .u64 x129009_3] 26 (0, 0))) ∧ Aside0 (wc.heap[gb129]? = some (.cells #[.int .u64 a1_0, .int .u64 a1_1, .int .u64 a1_2, .int .u64 a1_3, .int .u64 a1_4, .int .u64 a1_5, .int .u64 a1_6, .int .u64 a1_7, .bool a1_8, .bool a1_9] 28 (0, 0))) ∧ Aside0 (wc.heap[gb130]? = some (.cells #[.int .i64 0, (.slice none 0 0), .int .u64 0, .int .u64 0, .int .u64 0, .int .u64 0, .int .u64 0, .int .u64 0, .int .u64 0, .int .u64 0] 26 (0, 0))) ∧ Aside0 (Below w.heap.size w wc))
     case first =>
      have H := HC28.out
      clear HC28
      by_cases c29 : x36_22 = true
      ·subst c29
       have H1 : ((filt_PushMax.f kj22 t131 10 x129006_3 a1_7).bind fun t138 => (probe_Ack.j2 kj22 a0_0 t138 a0_2 a0_3 a0_4 a0_5 x129006_3 a0_7 a0_8 x129009_3 a1_0 a1_1 a1_2 a1_3 a1_4 a1_5 a1_6 a1_7 a1_8 a1_9)) = some (r1, r2, r3, r4, r5, r6, r7, r8, r9, r10) := by rw [if_pos rfl] at H; exact H
       clear H
       have H := H1
       clear H1
       replace H := Option.bind_eq_some_iff.mp H
       obtain ⟨t138, A300, H⟩ := H
       replace H : (probe_Ack.j2 kj22 a0_0 t138 a0_2 a0_3 a0_4 a0_5 x129006_3 a0_7 a0_8 x129009_3 a1_0 a1_1 a1_2 a1_3 a1_4 a1_5 a1_6 a1_7 a1_8 a1_9) = some (r1, r2, r3, r4, r5, r6, r7, r8, r9, r10) := H
       have A30 := Aside0.mk A300
       clear A300
       have H' := Aside0.mk H
       clear H; have hnb31 := NB128_129.out; have hnc31 := NB129_128.out; have hnb32 := NB128_130.out; have hnc32 := NB130_128.out; have hcz33_0 := cells10_ BK128.out; have hfz33_0 := froz10_ BK128.out; have hnb34 := NB129_130.out; have hnc34 := NB130_129.out; have hcz35_0 := cells10_ BK129.out; have hfz35_0 := froz10_ BK129.out
       go_wp2_with (first | ((with_reducible refine gate_callee (f := 28) rfl ?_); refine goesL_ (some 44) rfl rfl Try.func28 (by kernel_rfl) rfl #[.slice Ao12 t131.length co12, .int .u64 10, .agg #[.int .u64 x129006_3, .int .u64 a1_7]] rfl (by (try simp only [List.map_toArray, List.map_cons, List.map_nil]); first | done | rfl | (simp only [List.length_drop, List.length_take]; rfl)) ?_; (with_reducible refine (filt_PushMax.calls kj22 _ _ t131 10 x129006_3 a1_7 t138 _ ?side1 ?side2 A30.out).mono ?_); (case side1 => repeat (first | exact (Kd.R_reads' HO_129001.out).2.2 | (with_reducible refine Kd.C_alloc ?_ _) | (with_reducible refine Kd.C_drewN ?_ _) | (with_reducible refine Kd.C_drew ?_))); (case side2 => exact (Kd.R_reads' HO_129001.out).2.1); rintro e w36 ⟨v139, rfl, ho0, hb⟩; refine ⟨_, rfl, ?_⟩; have n0_ := Aside0.mk (Kd.R_elder' (by (with_reducible repeat (first | apply Kd.R_alloc | apply Kd.R_drewN | apply Kd.R_drew)); exact HO_129001.out) (Kd.R_base ho0) hb); have n1_ := Aside0.mk (Kd.R_lower (Kd.R_new' ho0 (Kd.R_lt (by (with_reducible repeat (first | apply Kd.R_alloc | apply Kd.R_drewN | apply Kd.R_drew)); exact HO_129001.out))) (below_size (by repeat (first | (with_reducible first | exact HB.out | apply b1_ | apply b2_ | apply b3_ | refine bS_ ?_ GE128.out | refine bS_ ?_ GE129.out | refine bS_ ?_ GE130.out) | exact HB.out)))); have n2_ := Aside0.mk (blk_below (g := gb128) (o := .cells #[.int .i64 a0_0, .slice Ao12 t131.length co12, .int .u64 a0_2, .int .u64 a0_3, .int .u64 a0_4, .int .u64 a0_5, .int .u64 x129006_3, .int .u64 a0_7, .int .u64 a0_8, .int .u64 x129009_3] 26 (0, 0)) (by (with_reducible repeat first|apply bN_|apply bD_|apply bA_); exact BK128.out) hb); have n3_ := Aside0.mk (blk_below (g := gb129) (o := .cells #[.int .u64 a1_0, .int .u64 a1_1, .int .u64 a1_2, .int .u64 a1_3, .int .u64 a1_4, .int .u64 a1_5, .int .u64 a1_6, .int .u64 a1_7, .bool a1_8, .bool a1_9] 28 (0, 0)) (by (with_reducible repeat first|apply bN_|apply bD_|apply bA_); exact BK129.out) hb); have n4_ := Aside0.mk (blk_below (g := gb130) (o := .cells #[.int .i64 0, .slice none 0 0, .int .u64 0, .int .u64 0, .int .u64 0, .int .u64 0, .int .u64 0, .int .u64 0, .int .u64 0, .int .u64 0] 26 (0, 0)) (by (with_reducible repeat first|apply bN_|apply bD_|apply bA_); exact BK130.out) hb); have n5_ := Aside0.mk (below_step (by repeat (first | (with_reducible first | exact HB.out | apply b1_ | apply b2_ | apply b3_ | refine bS_ ?_ GE128.out | refine bS_ ?_ GE129.out | refine bS_ ?_ GE130.out) | exact HB.out)) hb); clear HO_129001; clear BK128; clear BK129; clear BK130; clear HB; have HO_129001 := n0_; have HO140 := n1_; have BK128 := n2_; have BK129 := n3_; have BK130 := n4_; have HB := n5_; clear n0_ n1_ n2_ n3_ n4_ n5_; (try clear hb); (try clear hb2); (try clear hk); (try clear hi); (try clear ho0); obtain ⟨Ao37, co37, eo37⟩ := Kd.R_slice HO140.out; subst eo37; have hcz38_0 := cells10_ BK128.out; have hfz38_0 := froz9_ BK128.out; have hfz38_9 := blk_frozen BK128.out 9))
       go_meet
       case rel => exact ⟨_, (t138), (.slice Ao37 t138.length co37), H', ⟨by have := HJ3.out; have := HJ22.out; first | omega | exact Nat.le_refl _⟩, ⟨by (with_reducible repeat (first | apply Kd.R_alloc | apply Kd.R_drewN | apply Kd.R_drew)); exact Kd.R_mono (Kd.R_far (p := ⟨gb128, 1, none⟩) (Kd.R_types HO140.out BK128.out (by decide)) (fun _ hk => hk.2) (.slice Ao37 t138.length co37)) (fun _ hk => trivial)⟩, ⟨by (with_reducible repeat first|apply bN_|apply bD_|apply bA_); refine blk_put (cs := #[.int .i64 a0_0, .slice Ao12 t131.length co12, .int .u64 a0_2, .int .u64 a0_3, .int .u64 a0_4, .int .u64 a0_5, .int .u64 x129006_3, .int .u64 a0_7, .int .u64 a0_8, .int .u64 x129009_3]) ?_ 1 _ rfl; (with_reducible repeat first|apply bN_|apply bD_|apply bA_); exact BK128.out⟩, ⟨by (with_reducible repeat first|apply bN_|apply bD_|apply bA_); refine blk_far ?_ NB129_128.out _; (with_reducible repeat first|apply bN_|apply bD_|apply bA_); exact BK129.out⟩, ⟨by (with_reducible repeat first|apply bN_|apply bD_|apply bA_); refine blk_far ?_ NB130_128.out _; (with_reducible repeat first|apply bN_|apply bD_|apply bA_); exact BK130.out⟩, ⟨by repeat (first | (with_reducible first | exact HB.out | apply b1_ | apply b2_ | apply b3_ | refine bS_ ?_ GE128.out | refine bS_ ?_ GE129.out | refine bS_ ?_ GE130.out) | exact HB.out)⟩⟩
      ·replace c29 := Bool.eq_false_iff.mpr c29
       subst c29
       have H1 : (probe_Ack.j2 kj22 a0_0 t131 a0_2 a0_3 a0_4 a0_5 x129006_3 a0_7 a0_8 x129009_3 a1_0 a1_1 a1_2 a1_3 a1_4 a1_5 a1_6 a1_7 a1_8 a1_9) = some (r1, r2, r3, r4, r5, r6, r7, r8, r9, r10) := by rw [if_neg (show ¬ (false = true) by decide)] at H; exact H
       clear H
       have H := H1
       clear H1
       have H' := Aside0.mk H
       clear H
       go_wp2
       go_meet
       case rel => exact ⟨_, (t131), (.slice Ao12 t131.length co12), H', ⟨by have := HJ3.out; have := HJ22.out; first | omega | exact Nat.le_refl _⟩, ⟨by (with_reducible repeat (first | apply Kd.R_alloc | apply Kd.R_drewN | apply Kd.R_drew)); exact HO_129001.out⟩, ⟨by (with_reducible repeat first|apply bN_|apply bD_|apply bA_); exact BK128.out⟩, ⟨by (with_reducible repeat first|apply bN_|apply bD_|apply bA_); exact BK129.out⟩, ⟨by (with_reducible repeat first|apply bN_|apply bD_|apply bA_); exact BK130.out⟩, ⟨by repeat (first | (with_reducible first | exact HB.out | apply b1_ | apply b2_ | apply b3_ | refine bS_ ?_ GE128.out | refine bS_ ?_ GE129.out | refine bS_ ?_ GE130.out) | exact HB.out)⟩⟩
     case rest =>
      clear HC28; (try clear c1); (try clear c2); (try clear p2); (try clear c3); (try clear c8); (try clear c9); (try clear c11); (try clear c14); (try clear c16); (try clear c20); (try clear c21); (try clear c23); (try clear c24); (try clear c25); (try clear c26); (try clear c27); (try clear c28); (try clear c29); (try clear c31); (try clear c32); (try clear c34); (try clear p2)
      (try clear HO_129001); (try clear BK128); (try clear BK129); (try clear BK130); (try clear HB)
      obtain ⟨kq, x129001_27, u129001, HA, HJ27, HO_129001, BK128, BK129, BK130, HB⟩ := hcut
      cases kq with
      | zero => exact absurd HA.out (by simp [probe_Ack.j2])
      | succ kj27 =>
       have H := HA.out
       clear HA
       simp only [probe_Ack.j2] at H
       replace H := Option.bind_eq_some_iff.mp H
       obtain ⟨t141, A390, H⟩ := H
       replace H : (if a1_0 ≥ t141 then (probe_Ack.j3 kj27 (decide (a1_0 ≥ t141)) true a0_0 x129001_27 a0_2 a0_3 a0_4 a0_5 x129006_3 a0_7 a0_8 x129009_3 a1_0 a1_1 a1_2 a1_3 a1_4 a1_5 a1_6 a1_7 a1_8 a1_9) else (probe_Ack.j3 kj27 (decide (a1_0 ≥ t141)) (decide (a1_5 < a0_2)) a0_0 x129001_27 a0_2 a0_3 a0_4 a0_5 x129006_3 a0_7 a0_8 x129009_3 a1_0 a1_1 a1_2 a1_3 a1_4 a1_5 a1_6 a1_7 a1_8 a1_9)) = some (r1, r2, r3, r4, r5, r6, r7, r8, r9, r10) := H
       have A39 := Aside0.mk A390
       clear A390
       have HC40 := Aside0.mk H
       clear H
       try go_wp2
       have n0_ := Aside0.mk (Kd.R_drew HO_129001.out); have n1_ := Aside0.mk (blk_drew BK128.out); have n2_ := Aside0.mk (blk_drew BK129.out); have n3_ := Aside0.mk (blk_drew BK130.out); have n4_ := Aside0.mk (below_drew1 HB.out); clear HO_129001; clear BK128; clear BK129; clear BK130; clear HB
       have HO_129001 := n0_
       have BK128 := n1_; have BK129 := n2_; have BK130 := n3_; have HB := n4_; clear n0_ n1_ n2_ n3_ n4_
       refine start_ (n := 7) (S := fun w' => w'.cell? ⟨gb129, 0, none⟩ = some (.int .u64 a1_0) ∧ w'.cell? ⟨gb129, 1, none⟩ = some (.int .u64 a1_1) ∧ w'.cell? ⟨gb129, 2, none⟩ = some (.int .u64 a1_2) ∧ w'.cell? ⟨gb129, 3, none⟩ = some (.int .u64 a1_3) ∧ w'.cell? ⟨gb129, 4, none⟩ = some (.int .u64 a1_4) ∧ w'.cell? ⟨gb129, 5, none⟩ = some (.int .u64 a1_5) ∧ w'.cell? ⟨gb129, 6, none⟩ = some (.int .u64 a1_6) ∧ w'.cell? ⟨gb129, 7, none⟩ = some (.int .u64 a1_7) ∧ w'.cell? ⟨gb129, 8, none⟩ = some (.bool a1_8) ∧ w'.cell? ⟨gb129, 9, none⟩ = some (.bool a1_9) ∧ w'.cell? ⟨gb128, 0, none⟩ = some (.int .i64 a0_0) ∧ w'.cell? ⟨gb128, 1, none⟩ = some (u129001) ∧ w'.cell? ⟨gb128, 2, none⟩ = some (.int .u64 a0_2) ∧ w'.cell? ⟨gb128, 3, none⟩ = some (.int .u64 a0_3) ∧ w'.cell? ⟨gb128, 4, none⟩ = some (.int .u64 a0_4) ∧ w'.cell? ⟨gb128, 5, none⟩ = some (.int .u64 a0_5) ∧ w'.cell? ⟨gb128, 6, none⟩ = some (.int .u64 x129006_3) ∧ w'.cell? ⟨gb128, 7, none⟩ = some (.int .u64 a0_7) ∧ w'.cell? ⟨gb128, 8, none⟩ = some (.int .u64 a0_8) ∧ w'.cell? ⟨gb128, 9, none⟩ = some (.int .u64 x129009_3)) (ds := []) #[false, false, false, false, false, false, false] (by kernel_rfl) rfl rfl ⟨(blk_cell BK129.out 0).trans rfl, (blk_cell BK129.out 1).trans rfl, (blk_cell BK129.out 2).trans rfl, (blk_cell BK129.out 3).trans rfl, (blk_cell BK129.out 4).trans rfl, (blk_cell BK129.out 5).trans rfl, (blk_cell BK129.out 6).trans rfl, (blk_cell BK129.out 7).trans rfl, (blk_cell BK129.out 8).trans rfl, (blk_cell BK129.out 9).trans rfl, (blk_cell BK128.out 0).trans rfl, (blk_cell BK128.out 1).trans rfl, (blk_cell BK128.out 2).trans rfl, (blk_cell BK128.out 3).trans rfl, (blk_cell BK128.out 4).trans rfl, (blk_cell BK128.out 5).trans rfl, (blk_cell BK128.out 6).trans rfl, (blk_cell BK128.out 7).trans rfl, (blk_cell BK128.out 8).trans rfl, (blk_cell BK128.out 9).trans rfl⟩ (fun hHeld => ?_)
       generalize wc.drew = w41 at HO_129001 BK128 BK129 BK130 HB hHeld ⊢
       refine pure_ (i := 0) (N := some 46) (v := ?_) (a' := ?_) #[true, false, false, false, false, false, false] rfl rfl (by kernel_rfl) (fun _ _ _ h => h) (Or.inl ⟨by rfl, ?_⟩) ?_ ?_
       rotate_left; focus (intro w'; go_simp; with_reducible rfl)
       rotate_left; focus (simp only [Act.put, sA_, s0_, s1_, i64_w, i32_w]; rfl)
       refine pure_ (i := 2) (N := some 48) (v := ?_) (a' := ?_) #[true, false, true, false, false, false, false] rfl rfl (by kernel_rfl) (fun _ _ _ h => h) (Or.inl ⟨by rfl, ?_⟩) ?_ ?_
       rotate_left; focus (intro w'; go_simp; with_reducible rfl)
       rotate_left; focus (simp only [Act.put, sA_, s0_, s1_, i64_w, i32_w]; rfl)
       refine take_ (i := 1) (N := some 47) (v := ?_) (a' := ?_) #[true, true, true, false, false, false, false] rfl rfl (by kernel_rfl) (fun _ _ _ h => h) (Or.inl ⟨by rfl, ?_⟩) hHeld ?_ ?_
       rotate_left; focus (rintro w' ⟨s0, s1, s2, s3, s4, s5, s6, s7, s8, s9, s10, s11, s12, s13, s14, s15, s16, s17, s18, s19⟩; go_simp; with_reducible rfl)
       rotate_left; focus (simp only [Act.put, sA_, s0_, s1_, i64_w, i32_w]; rfl)
       refine take_ (i := 3) (N := some 49) (v := ?_) (a' := ?_) #[true, true, true, true, false, false, false] rfl rfl (by kernel_rfl) (fun _ _ _ h => h) (Or.inl ⟨by rfl, ?_⟩) hHeld ?_ ?_
       rotate_left; focus (rintro w' ⟨s0, s1, s2, s3, s4, s5, s6, s7, s8, s9, s10, s11, s12, s13, s14, s15, s16, s17, s18, s19⟩; go_simp; with_reducible rfl)
       rotate_left; focus (simp only [Act.put, sA_, s0_, s1_, i64_w, i32_w]; rfl)
       refine one_ (i := 4) (N := some 50) #[true, true, true, true, true, false, false] rfl rfl (by kernel_rfl) (by decide) (fun K hK => ?_)
       refine goes_ Try.func26 (by kernel_rfl) rfl #[.int .u64 a0_3, .int .u64 10000] (by rfl) rfl rfl (by (try simp only [List.map_toArray, List.map_cons, List.map_nil]); first | done | rfl | (simp only [List.length_drop, List.length_take]; rfl)) ?_
       with_reducible refine (fix_Add.calls a0_3 10000 t141 _ A39.out).mono ?_
       rintro e w' ⟨rfl, ⟨nd, rfl⟩⟩
       refine ⟨_, rfl, ?_⟩
       refine hK.out _ _ ⟨(blk_cell BK129.out 0).trans rfl, (blk_cell BK129.out 1).trans rfl, (blk_cell BK129.out 2).trans rfl, (blk_cell BK129.out 3).trans rfl, (blk_cell BK129.out 4).trans rfl, (blk_cell BK129.out 5).trans rfl, (blk_cell BK129.out 6).trans rfl, (blk_cell BK129.out 7).trans rfl, (blk_cell BK129.out 8).trans rfl, (blk_cell BK129.out 9).trans rfl, (blk_cell BK128.out 0).trans rfl, (blk_cell BK128.out 1).trans rfl, (blk_cell BK128.out 2).trans rfl, (blk_cell BK128.out 3).trans rfl, (blk_cell BK128.out 4).trans rfl, (blk_cell BK128.out 5).trans rfl, (blk_cell BK128.out 6).trans rfl, (blk_cell BK128.out 7).trans rfl, (blk_cell BK128.out 8).trans rfl, (blk_cell BK128.out 9).trans rfl⟩ (fun hHeld => ?_)
       clear hK K
       refine norm_ (a' := ?_) ?_ ?_
       rotate_left
       ·show Act.put _ (some 50) _ = _
        simp only [Act.put, sA_, s0_, s1_, i64_w, i32_w]
        rfl
       refine pure_ (i := 5) (N := some 51) (v := ?_) (a' := ?_) #[true, true, true, true, true, true, false] rfl rfl (by kernel_rfl) (fun _ _ _ h => h) (Or.inl ⟨by rfl, ?_⟩) ?_ ?_
       rotate_left; focus (intro w'; go_simp; with_reducible rfl)
       rotate_left; focus (simp only [Act.put, sA_, s0_, s1_, i64_w, i32_w]; rfl)
       refine pure_ (i := 6) (N := some 5) (v := ?_) (a' := ?_) #[true, true, true, true, true, true, true] rfl rfl (by kernel_rfl) (fun _ _ _ h => h) (Or.inl ⟨by rfl, ?_⟩) ?_ ?_
       rotate_left; focus (intro w'; go_simp; with_reducible rfl)
       rotate_left; focus (simp only [Act.put, sA_, s0_, s1_, i64_w, i32_w]; rfl)
       refine done_ (by kernel_rfl) ?_
       generalize hst : decide (t141 ≤ a1_0) = st
       go_upto_region 8 with (fail)
       go_cut [59] (fun v59 wc => ∃ (kq : Nat) (x59_39 : Bool), v59 = .bool x59_39 ∧ Aside0 (probe_Ack.j3 kq (decide (a1_0 ≥ t141)) x59_39 a0_0 x129001_27 a0_2 a0_3 a0_4 a0_5 x129006_3 a0_7 a0_8 x129009_3 a1_0 a1_1 a1_2 a1_3 a1_4 a1_5 a1_6 a1_7 a1_8 a1_9 = some (r1, r2, r3, r4, r5, r6, r7, r8, r9, r10)) ∧ Aside0 (kq ≤ kj27) ∧ Aside0 (Kd.R k52 52 wc w.heap.size (fun _ => True) u129001 x129001_27) ∧ Aside0 (wc.heap[gb128]? = some (.cells #[.int .i64 a0_0, u129001, .int .u64 a0_2, .int .u64 a0_3, .int .u64 a0_4, .int .u64 a0_5, .int .u64 x129006_3, .int .u64 a0_7, .int .u64 a0_8, .int .u64 x129009_3] 26 (0, 0))) ∧ Aside0 (wc.heap[gb129]? = some (.cells #[.int .u64 a1_0, .int .u64 a1_1, .int .u64 a1_2, .int .u64 a1_3, .int .u64 a1_4, .int .u64 a1_5, .int .u64 a1_6, .int .u64 a1_7, .bool a1_8, .bool a1_9] 28 (0, 0))) ∧ Aside0 (wc.heap[gb130]? = some (.cells #[.int .i64 0, (.slice none 0 0), .int .u64 0, .int .u64 0, .int .u64 0, .int .u64 0, .int .u64 0, .int .u64 0, .int .u64 0, .int .u64 0] 26 (0, 0))) ∧ Aside0 (Below w.heap.size w wc))
       case first =>
        have H := HC40.out
        clear HC40
        by_cases c42 : a1_0 ≥ t141
        ·rw [if_pos c42] at H
         have c42b0 : decide (t141 ≤ a1_0) = true := decide_eq_true c42
         clear c42
         (have hs_ := hst.symm.trans c42b0; subst hs_)
         have H' := Aside0.mk H
         clear H
         go_wp2
         go_meet
         case rel => exact ⟨_, (true), (by first | rfl | (simp; done) | (simp [*]; done)), H', ⟨by have := HJ3.out; have := HJ22.out; have := HJ27.out; first | omega | exact Nat.le_refl _⟩, ⟨by (with_reducible repeat (first | apply Kd.R_alloc | apply Kd.R_drewN | apply Kd.R_drew)); exact HO_129001.out⟩, ⟨by (with_reducible repeat first|apply bN_|apply bD_|apply bA_); exact BK128.out⟩, ⟨by (with_reducible repeat first|apply bN_|apply bD_|apply bA_); exact BK129.out⟩, ⟨by (with_reducible repeat first|apply bN_|apply bD_|apply bA_); exact BK130.out⟩, ⟨by repeat (first | (with_reducible first | exact HB.out | apply b1_ | apply b2_ | apply b3_ | refine bS_ ?_ GE128.out | refine bS_ ?_ GE129.out | refine bS_ ?_ GE130.out) | exact HB.out)⟩⟩
        ·rw [if_neg c42] at H
         have c42b0 : decide (t141 ≤ a1_0) = false := decide_eq_false c42
         clear c42
         (have hs_ := hst.symm.trans c42b0; subst hs_)
         have H' := Aside0.mk H
         clear H; have hnb43 := NB129_128.out; have hnc43 := NB128_129.out; have hnb44 := NB129_130.out; have hnc44 := NB130_129.out; have hcz45_0 := cells10_ BK129.out; have hfz45_0 := froz10_ BK129.out; have hnb46 := NB128_130.out; have hnc46 := NB130_128.out; have hcz47_0 := cells10_ BK128.out; have hfz47_0 := froz10_ BK128.out
         go_wp2
         go_meet
         case rel => exact ⟨_, (decide (a1_5 < a0_2)), (by first | rfl | (simp; done) | (simp [*]; done)), H', ⟨by have := HJ3.out; have := HJ22.out; have := HJ27.out; first | omega | exact Nat.le_refl _⟩, ⟨by (with_reducible repeat (first | apply Kd.R_alloc | apply Kd.R_drewN | apply Kd.R_drew)); exact HO_129001.out⟩, ⟨by (with_reducible repeat first|apply bN_|apply bD_|apply bA_); exact BK128.out⟩, ⟨by (with_reducible repeat first|apply bN_|apply bD_|apply bA_); exact BK129.out⟩, ⟨by (with_reducible repeat first|apply bN_|apply bD_|apply bA_); exact BK130.out⟩, ⟨by repeat (first | (with_reducible first | exact HB.out | apply b1_ | apply b2_ | apply b3_ | refine bS_ ?_ GE128.out | refine bS_ ?_ GE129.out | refine bS_ ?_ GE130.out) | exact HB.out)⟩⟩
       case rest =>
        subst hst
        clear HC40; (try clear c1); (try clear c2); (try clear p2); (try clear c3); (try clear c4); (try clear c8); (try clear c9); (try clear c11); (try clear c14); (try clear c16); (try clear c20); (try clear c21); (try clear c23); (try clear c24); (try clear c25); (try clear c26); (try clear c27); (try clear c28); (try clear c29); (try clear c31); (try clear c32); (try clear c34); (try clear c42); (try clear c42b0); (try clear c43); (try clear c44); (try clear c46); (try clear p2)
        (try clear HO_129001); (try clear BK128); (try clear BK129); (try clear BK130); (try clear HB)
        obtain ⟨kq, x59_39, rfl, HA, HJ39, HO_129001, BK128, BK129, BK130, HB⟩ := hcut
        cases kq with
        | zero => exact absurd HA.out (by simp [probe_Ack.j3])
        | succ kj39 =>
         have H := HA.out
         clear HA
         simp only [probe_Ack.j3] at H
         have HC48 := Aside0.mk H
         clear H
         go_upto_if 59 with (fail)
         go_cut [] (fun wc => ∃ (kq : Nat) (x129002_47 : Int) (x129003_47 : Int), Aside0 (probe_Ack.j4 kq (decide (a1_0 ≥ t141)) a0_0 x129001_27 x129002_47 x129003_47 a0_4 a0_5 x129006_3 a0_7 a0_8 x129009_3 a1_0 a1_1 a1_2 a1_3 a1_4 a1_5 a1_6 a1_7 a1_8 a1_9 = some (r1, r2, r3, r4, r5, r6, r7, r8, r9, r10)) ∧ Aside0 (kq ≤ kj39) ∧ Aside0 (Kd.R k52 52 wc w.heap.size (fun _ => True) u129001 x129001_27) ∧ Aside0 (wc.heap[gb128]? = some (.cells #[.int .i64 a0_0, u129001, .int .u64 x129002_47, .int .u64 x129003_47, .int .u64 a0_4, .int .u64 a0_5, .int .u64 x129006_3, .int .u64 a0_7, .int .u64 a0_8, .int .u64 x129009_3] 26 (0, 0))) ∧ Aside0 (wc.heap[gb129]? = some (.cells #[.int .u64 a1_0, .int .u64 a1_1, .int .u64 a1_2, .int .u64 a1_3, .int .u64 a1_4, .int .u64 a1_5, .int .u64 a1_6, .int .u64 a1_7, .bool a1_8, .bool a1_9] 28 (0, 0))) ∧ Aside0 (wc.heap[gb130]? = some (.cells #[.int .i64 0, (.slice none 0 0), .int .u64 0, .int .u64 0, .int .u64 0, .int .u64 0, .int .u64 0, .int .u64 0, .int .u64 0, .int .u64 0] 26 (0, 0))) ∧ Aside0 (Below w.heap.size w wc))
         case first =>
          have H := HC48.out
          clear HC48
          by_cases c49 : x59_39 = true
          ·subst c49
           have H1 : (probe_Ack.j4 kj39 (decide (a1_0 ≥ t141)) a0_0 x129001_27 a1_5 a1_0 a0_4 a0_5 x129006_3 a0_7 a0_8 x129009_3 a1_0 a1_1 a1_2 a1_3 a1_4 a1_5 a1_6 a1_7 a1_8 a1_9) = some (r1, r2, r3, r4, r5, r6, r7, r8, r9, r10) := by rw [if_pos rfl] at H; exact H
           clear H
           have H := H1
           clear H1
           have H' := Aside0.mk H
           clear H
           try go_wp2
           have n0_ := Aside0.mk (Kd.R_drew HO_129001.out); have n1_ := Aside0.mk (blk_drew BK128.out); have n2_ := Aside0.mk (blk_drew BK129.out); have n3_ := Aside0.mk (blk_drew BK130.out); have n4_ := Aside0.mk (below_drew1 HB.out); clear HO_129001; clear BK128; clear BK129; clear BK130; clear HB
           have HO_129001 := n0_
           have BK128 := n1_; have BK129 := n2_; have BK130 := n3_; have HB := n4_; clear n0_ n1_ n2_ n3_ n4_
           refine start_ (n := 8) (S := fun w' => w'.cell? ⟨gb129, 0, none⟩ = some (.int .u64 a1_0) ∧ w'.cell? ⟨gb129, 1, none⟩ = some (.int .u64 a1_1) ∧ w'.cell? ⟨gb129, 2, none⟩ = some (.int .u64 a1_2) ∧ w'.cell? ⟨gb129, 3, none⟩ = some (.int .u64 a1_3) ∧ w'.cell? ⟨gb129, 4, none⟩ = some (.int .u64 a1_4) ∧ w'.cell? ⟨gb129, 5, none⟩ = some (.int .u64 a1_5) ∧ w'.cell? ⟨gb129, 6, none⟩ = some (.int .u64 a1_6) ∧ w'.cell? ⟨gb129, 7, none⟩ = some (.int .u64 a1_7) ∧ w'.cell? ⟨gb129, 8, none⟩ = some (.bool a1_8) ∧ w'.cell? ⟨gb129, 9, none⟩ = some (.bool a1_9)) (ds := []) #[false, false, false, false, false, false, false, false] (by kernel_rfl) rfl rfl ⟨(blk_cell BK129.out 0).trans rfl, (blk_cell BK129.out 1).trans rfl, (blk_cell BK129.out 2).trans rfl, (blk_cell BK129.out 3).trans rfl, (blk_cell BK129.out 4).trans rfl, (blk_cell BK129.out 5).trans rfl, (blk_cell BK129.out 6).trans rfl, (blk_cell BK129.out 7).trans rfl, (blk_cell BK129.out 8).trans rfl, (blk_cell BK129.out 9).trans rfl⟩ (fun hHeld => ?_); refine with_tabW probe_Ack.tab9 probe_Ack.bits9 (fun HT_ HW_ => ?_)
           generalize wc.drew = w50 at HO_129001 BK128 BK129 BK130 HB hHeld ⊢
           refine pure_ (i := 0) (N := some 60) (v := ?_) (a' := ?_) #[true, false, false, false, false, false, false, false] rfl rfl (any_of HT_.out (by kernel_rfl)) (fun _ _ _ h => h) (Or.inl ⟨by rfl, ?_⟩) ?_ ?_
           rotate_left; focus (intro w'; go_simp; with_reducible rfl)
           rotate_left; focus (simp only [Act.put, sA_, s0_, s1_, i64_w, i32_w]; rfl)
           refine pure_ (i := 2) (N := some 62) (v := ?_) (a' := ?_) #[true, false, true, false, false, false, false, false] rfl rfl (any_of HT_.out (by kernel_rfl)) (fun _ _ _ h => h) (Or.inl ⟨by rfl, ?_⟩) ?_ ?_
           rotate_left; focus (intro w'; go_simp; with_reducible rfl)
           rotate_left; focus (simp only [Act.put, sA_, s0_, s1_, i64_w, i32_w]; rfl)
           refine take_ (i := 1) (N := some 61) (v := ?_) (a' := ?_) #[true, true, true, false, false, false, false, false] rfl rfl (take_ofW HT_.out HW_.out (by kernel_rfl)) (fun _ _ _ h => h) (Or.inl ⟨by rfl, ?_⟩) hHeld ?_ ?_
           rotate_left; focus (rintro w' ⟨s0, s1, s2, s3, s4, s5, s6, s7, s8, s9⟩; go_simp; with_reducible rfl)
           rotate_left; focus (simp only [Act.put, sA_, s0_, s1_, i64_w, i32_w]; rfl)
           refine pure_ (i := 4) (N := some 64) (v := ?_) (a' := ?_) #[true, true, true, false, true, false, false, false] rfl rfl (any_of HT_.out (by kernel_rfl)) (fun _ _ _ h => h) (Or.inl ⟨by rfl, ?_⟩) ?_ ?_
           rotate_left; focus (intro w'; go_simp; with_reducible rfl)
           rotate_left; focus (simp only [Act.put, sA_, s0_, s1_, i64_w, i32_w]; rfl)
           refine take_ (i := 3) (N := some 63) (v := ?_) (a' := ?_) #[true, true, true, true, true, false, false, false] rfl rfl (take_ofW HT_.out HW_.out (by kernel_rfl)) (fun _ _ _ h => h) (Or.inl ⟨by rfl, ?_⟩) hHeld ?_ ?_
           rotate_left; focus (rintro w' ⟨s0, s1, s2, s3, s4, s5, s6, s7, s8, s9⟩; go_simp; with_reducible rfl)
           rotate_left; focus (simp only [Act.put, sA_, s0_, s1_, i64_w, i32_w]; rfl)
           refine one_ (i := 5) (N := none) #[true, true, true, true, true, true, false, false] rfl rfl (one_of HT_.out (by kernel_rfl)) (by decide) (fun K hK => ?_)
           have hs51 : w50.cell? ⟨gb128, 2, none⟩ = some (.int .u64 a0_2) := (blk_cell BK128.out 2).trans rfl
           have hfs51 := blk_frozen BK128.out 2
           have hns51_1 := NB129_128.out
           have hns51_2 := NB130_128.out
           have hms51_1 := NB128_129.out
           have hms51_2 := NB128_130.out
           refine skip_ (w1 := ?_) (by rfl) rfl ?_ ?_
           rotate_left
           ·go_simp
            rfl
           refine hK.out _ _ ⟨((cell_far (p := ⟨gb128, _, none⟩) NB129_128.out _).trans (hHeld.1)), ((cell_far (p := ⟨gb128, _, none⟩) NB129_128.out _).trans (hHeld.2.1)), ((cell_far (p := ⟨gb128, _, none⟩) NB129_128.out _).trans (hHeld.2.2.1)), ((cell_far (p := ⟨gb128, _, none⟩) NB129_128.out _).trans (hHeld.2.2.2.1)), ((cell_far (p := ⟨gb128, _, none⟩) NB129_128.out _).trans (hHeld.2.2.2.2.1)), ((cell_far (p := ⟨gb128, _, none⟩) NB129_128.out _).trans (hHeld.2.2.2.2.2.1)), ((cell_far (p := ⟨gb128, _, none⟩) NB129_128.out _).trans (hHeld.2.2.2.2.2.2.1)), ((cell_far (p := ⟨gb128, _, none⟩) NB129_128.out _).trans (hHeld.2.2.2.2.2.2.2.1)), ((cell_far (p := ⟨gb128, _, none⟩) NB129_128.out _).trans (hHeld.2.2.2.2.2.2.2.2.1)), ((cell_far (p := ⟨gb128, _, none⟩) NB129_128.out _).trans (hHeld.2.2.2.2.2.2.2.2.2))⟩ (fun hHeld => ?_)
           clear hK K
           refine pure_ (i := 6) (N := some 65) (v := ?_) (a' := ?_) #[true, true, true, true, true, true, true, false] rfl rfl (any_of HT_.out (by kernel_rfl)) (fun _ _ _ h => h) (Or.inl ⟨by rfl, ?_⟩) ?_ ?_
           rotate_left; focus (intro w'; go_simp; with_reducible rfl)
           rotate_left; focus (simp only [Act.put, sA_, s0_, s1_, i64_w, i32_w]; rfl)
           refine one_ (i := 7) (N := none) #[true, true, true, true, true, true, true, true] rfl rfl (one_of HT_.out (by kernel_rfl)) (by decide) (fun K hK => ?_)
           have hs52 : w50.cell? ⟨gb128, 3, none⟩ = some (.int .u64 a0_3) := (blk_cell BK128.out 3).trans rfl
           have hfs52 := blk_frozen BK128.out 3
           have hns52_1 := NB129_128.out
           have hns52_2 := NB130_128.out
           have hms52_1 := NB128_129.out
           have hms52_2 := NB128_130.out
           refine skip_ (w1 := ?_) (by rfl) rfl ?_ ?_
           rotate_left
           ·go_simp
            rfl
           refine hK.out _ _ ⟨((cell_far (p := ⟨gb128, _, none⟩) NB129_128.out _).trans (hHeld.1)), ((cell_far (p := ⟨gb128, _, none⟩) NB129_128.out _).trans (hHeld.2.1)), ((cell_far (p := ⟨gb128, _, none⟩) NB129_128.out _).trans (hHeld.2.2.1)), ((cell_far (p := ⟨gb128, _, none⟩) NB129_128.out _).trans (hHeld.2.2.2.1)), ((cell_far (p := ⟨gb128, _, none⟩) NB129_128.out _).trans (hHeld.2.2.2.2.1)), ((cell_far (p := ⟨gb128, _, none⟩) NB129_128.out _).trans (hHeld.2.2.2.2.2.1)), ((cell_far (p := ⟨gb128, _, none⟩) NB129_128.out _).trans (hHeld.2.2.2.2.2.2.1)), ((cell_far (p := ⟨gb128, _, none⟩) NB129_128.out _).trans (hHeld.2.2.2.2.2.2.2.1)), ((cell_far (p := ⟨gb128, _, none⟩) NB129_128.out _).trans (hHeld.2.2.2.2.2.2.2.2.1)), ((cell_far (p := ⟨gb128, _, none⟩) NB129_128.out _).trans (hHeld.2.2.2.2.2.2.2.2.2))⟩ (fun hHeld => ?_)
           clear hK K
           refine done_ (done_of HT_.out (by kernel_rfl)) ?_
           try go_wp2
           go_meet
           case rel => exact ⟨_, (a1_5), (a1_0), H', ⟨by have := HJ3.out; have := HJ22.out; have := HJ27.out; have := HJ39.out; first | omega | exact Nat.le_refl _⟩, ⟨by (with_reducible repeat (first | apply Kd.R_alloc | apply Kd.R_drewN | apply Kd.R_drew)); exact Kd.R_mono (Kd.R_far (p := ⟨gb128, 3, none⟩) (Kd.R_far (p := ⟨gb128, 2, none⟩) (Kd.R_types HO_129001.out BK128.out (by decide)) (fun _ hk => hk.2) (.int .u64 a1_5)) (fun _ hk => hk.2) (.int .u64 a1_0)) (fun _ hk => trivial)⟩, ⟨by (with_reducible repeat first|apply bN_|apply bD_|apply bA_); refine blk_put (cs := #[.int .i64 a0_0, u129001, .int .u64 a1_5, .int .u64 a0_3, .int .u64 a0_4, .int .u64 a0_5, .int .u64 x129006_3, .int .u64 a0_7, .int .u64 a0_8, .int .u64 x129009_3]) ?_ 3 _ rfl; (with_reducible repeat first|apply bN_|apply bD_|apply bA_); refine blk_put (cs := #[.int .i64 a0_0, u129001, .int .u64 a0_2, .int .u64 a0_3, .int .u64 a0_4, .int .u64 a0_5, .int .u64 x129006_3, .int .u64 a0_7, .int .u64 a0_8, .int .u64 x129009_3]) ?_ 2 _ rfl; (with_reducible repeat first|apply bN_|apply bD_|apply bA_); exact BK128.out⟩, ⟨by (with_reducible repeat first|apply bN_|apply bD_|apply bA_); refine blk_far ?_ NB129_128.out _; (with_reducible repeat first|apply bN_|apply bD_|apply bA_); refine blk_far ?_ NB129_128.out _; (with_reducible repeat first|apply bN_|apply bD_|apply bA_); exact BK129.out⟩, ⟨by (with_reducible repeat first|apply bN_|apply bD_|apply bA_); refine blk_far ?_ NB130_128.out _; (with_reducible repeat first|apply bN_|apply bD_|apply bA_); refine blk_far ?_ NB130_128.out _; (with_reducible repeat first|apply bN_|apply bD_|apply bA_); exact BK130.out⟩, ⟨by repeat (first | (with_reducible first | exact HB.out | apply b1_ | apply b2_ | apply b3_ | refine bS_ ?_ GE128.out | refine bS_ ?_ GE129.out | refine bS_ ?_ GE130.out) | exact HB.out)⟩⟩
          ·replace c49 := Bool.eq_false_iff.mpr c49
           subst c49
           have H1 : (probe_Ack.j4 kj39 (decide (a1_0 ≥ t141)) a0_0 x129001_27 a0_2 a0_3 a0_4 a0_5 x129006_3 a0_7 a0_8 x129009_3 a1_0 a1_1 a1_2 a1_3 a1_4 a1_5 a1_6 a1_7 a1_8 a1_9) = some (r1, r2, r3, r4, r5, r6, r7, r8, r9, r10) := by rw [if_neg (show ¬ (false = true) by decide)] at H; exact H
           clear H
           have H := H1
           clear H1
           have H' := Aside0.mk H
           clear H
           go_wp2
           go_meet
           case rel => exact ⟨_, (a0_2), (a0_3), H', ⟨by have := HJ3.out; have := HJ22.out; have := HJ27.out; have := HJ39.out; first | omega | exact Nat.le_refl _⟩, ⟨by (with_reducible repeat (first | apply Kd.R_alloc | apply Kd.R_drewN | apply Kd.R_drew)); exact HO_129001.out⟩, ⟨by (with_reducible repeat first|apply bN_|apply bD_|apply bA_); exact BK128.out⟩, ⟨by (with_reducible repeat first|apply bN_|apply bD_|apply bA_); exact BK129.out⟩, ⟨by (with_reducible repeat first|apply bN_|apply bD_|apply bA_); exact BK130.out⟩, ⟨by repeat (first | (with_reducible first | exact HB.out | apply b1_ | apply b2_ | apply b3_ | refine bS_ ?_ GE128.out | refine bS_ ?_ GE129.out | refine bS_ ?_ GE130.out) | exact HB.out)⟩⟩
         case rest =>
          clear HC48; (try clear c1); (try clear c2); (try clear p2); (try clear c3); (try clear c4); (try clear c8); (try clear c9); (try clear c11); (try clear c14); (try clear c16); (try clear c20); (try clear c21); (try clear c23); (try clear c24); (try clear c25); (try clear c26); (try clear c27); (try clear c28); (try clear c29); (try clear c31); (try clear c32); (try clear c34); (try clear c42); (try clear c42b0); (try clear c43); (try clear c44); (try clear c46); (try clear c49); (try clear p2)
          (try clear HO_129001); (try clear BK128); (try clear BK129); (try clear BK130); (try clear HB)
          obtain ⟨kq, x129002_47, x129003_47, HA, HJ47, HO_129001, BK128, BK129, BK130, HB⟩ := hcut
          cases kq with
          | zero => exact absurd HA.out (by simp [probe_Ack.j4])
          | succ kj47 =>
           have H := HA.out
           clear HA
           simp only [probe_Ack.j4] at H
           apply_assumption
           exact probe_Ack.rest4 k a0_0 A0_1 c0_1 l0_1 a0_2 a0_3 a0_4 a0_5 a0_6 a0_7 a0_8 a0_9 a1_0 a1_1 a1_2 a1_3 a1_4 a1_5 a1_6 a1_7 a1_8 a1_9 r1 r2 r3 r4 r5 r6 r7 r8 r9 r10 w hu26 hu28 hu52 hmf gb128 GE128 gb129 GE129 NB128_129 NB129_128 gb130 GE130 NB128_130 NB130_128 NB129_130 NB130_129 x129006_3 x129009_3 kj3 HJ3 kj22 HJ22 x129001_27 u129001 kj27 HJ27 t141 kj39 HJ39 wc u8 u9 u10 u11 u12 u13 u14 u15 u16 u17 u18 u19 u20 u21 u22 u23 u24 u25 u26 u27 u28 u29 u30 u31 u32 u33 u34 u35 u36 u37 u38 u39 u40 u41 u42 u43 u44 u45 u46 u47 u48 u49 u50 u51 u52 u53 u54 u55 u56 u57 u58 u59 u60 u61 u62 u63 u64 u65 u66 u67 u68 u69 u71 u72 u73 u74 u75 u76 u77 u78 u79 u80 u81 u82 u83 u84 u85 u86 u87 u88 u89 u90 u91 u92 u93 u94 u95 u96 u97 u98 u99 u101 u102 u103 u104 u105 u106 u107 u108 u109 u110 u111 u112 u113 u114 u115 u116 u117 u118 u119 u120 u122 u123 u124 u125 u126 u127 u128 u129 u130 u131 u132 u133 u135 u136 u137 u138 u139 u140 u141 u142 u143 u144 u146 u147 u148 u149 u150 u151 u152 u153 u154 u155 u156 u157 u158 u159 u160 u161 u162 u163 u165 u166 u167 u168 u169 u170 u171 u172 u173 u174 u175 u176 u177 u178 x129002_47 x129003_47 HO_129001 BK128 BK129 BK130 HB kj47 HJ47 H _ rfl

end Go.Proofs.Ytoanhimhomgjmaa.PPrO
