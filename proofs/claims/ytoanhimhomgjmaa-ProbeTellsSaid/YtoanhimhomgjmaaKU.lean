/- Several texts of this claim in one: What packets that came make of a model by the document is what the law says of the program's own. Chapter 13, part by part. The program's own Rate and Ack. Two models that are alike are told to be. Chapter 13, part by part. Chapter 13, part by part. The law along its ways. Any model behind packets that came, and a loss, what the path holds, the window and the rate, are what the document says: for every model of at most a hundred rates. -/
import Derived.Deep.DeepMust
import Derived.Test.YtoanhimhomgjmaaKPrT
import Derived.Test.YtoanhimhomgjmaaKP
import Derived.Test.YtoanhimhomgjmaaKC
import Derived.Test.YtoanhimhomgjmaaKPPrNx10
import Derived.Test.YtoanhimhomgjmaaKB
import Derived.Test.YtoanhimhomgjmaaKD
import Derived.Test.YtoanhimhomgjmaaKF
import Derived.Test.YtoanhimhomgjmaaKA
section
namespace Go.Proofs.Ytoanhimhomgjmaa.PPrN
open Go.RowKit Go.Proofs.Ytoanhimhomgjmaa.ProEq Go.Proofs.YtoanhimhomgjmaaW.PrintWords Go.Proofs.YtoanhimhomgjmaaW.PrintLast Go.Proofs.YtoanhimhomgjmaaW.PrintMore
set_option linter.unusedVariables false
set_option linter.unusedSimpArgs false
set_option maxRecDepth 100000
set_option maxHeartbeats 8000000
theorem pMove_cells (st : Int) (l : List S52) (mn mat full still rounds phase since high now flight : Int) (lim round stale : Bool) : (pMove st l mn mat full still rounds phase since high now flight lim round stale).2.1 = l ∧ (pMove st l mn mat full still rounds phase since high now flight lim round stale).2.2.1 = mn ∧ (pMove st l mn mat full still rounds phase since high now flight lim round stale).2.2.2.1 = mat ∧ (pMove st l mn mat full still rounds phase since high now flight lim round stale).2.2.2.2.2.2.1 = rounds ∧ (pMove st l mn mat full still rounds phase since high now flight lim round stale).2.2.2.2.2.2.2.2.2 = high := by
 unfold pMove
 repeat' split
 all_goals exact ⟨rfl, rfl, rfl, rfl, rfl⟩
theorem ackRC (p0 p2 p3 p4 p5 p6 p7 p8 p9 : Int) (g_0 g_1 g_2 g_3 g_4 g_5 g_6 g_7 : Int) (g_8 g_9 : Bool) (A1 : Option Addr) (k1 : Nat) (l1 : List S52) (hw1 : SWf l1) (Wp2 : W64 p2) (Wp3 : W64 p3) (Wp4 : W64 p4) (Wp5 : W64 p5) (Wp6 : W64 p6) (Wp7 : W64 p7) (Wp8 : W64 p8) (Wp9 : W64 p9) (Wg_0 : W64 g_0) (Wg_1 : W64 g_1) (Wg_2 : W64 g_2) (Wg_3 : W64 g_3) (Wg_4 : W64 g_4) (Wg_5 : W64 g_5) (Wg_6 : W64 g_6) (Wg_7 : W64 g_7) (hL1 : l1.length < 1000000) (w : World) (hr1 : Kd.C k52 w A1 l1.length l1) (hk1 : l1.length ≤ k1) :
  Calls Try.prog 12 #[.agg #[.int .i64 p0, .slice A1 l1.length k1, .int .u64 p2, .int .u64 p3, .int .u64 p4, .int .u64 p5, .int .u64 p6, .int .u64 p7, .int .u64 p8, .int .u64 p9], .agg #[.int .u64 g_0, .int .u64 g_1, .int .u64 g_2, .int .u64 g_3, .int .u64 g_4, .int .u64 g_5, .int .u64 g_6, .int .u64 g_7, .bool g_8, .bool g_9]] w fun e w' => ∃ (qA : Option Addr) (qk : Nat), e = .returned (.agg #[.int .i64 (pAck p0 l1 p2 p3 p4 p5 p6 p7 p8 p9 g_0 g_5 g_6 g_7 g_8 g_9).1, .slice qA (pAck p0 l1 p2 p3 p4 p5 p6 p7 p8 p9 g_0 g_5 g_6 g_7 g_8 g_9).2.1.length qk, .int .u64 ((pAck p0 l1 p2 p3 p4 p5 p6 p7 p8 p9 g_0 g_5 g_6 g_7 g_8 g_9).2.2.1), .int .u64 ((pAck p0 l1 p2 p3 p4 p5 p6 p7 p8 p9 g_0 g_5 g_6 g_7 g_8 g_9).2.2.2.1), .int .u64 ((pAck p0 l1 p2 p3 p4 p5 p6 p7 p8 p9 g_0 g_5 g_6 g_7 g_8 g_9).2.2.2.2.1), .int .u64 ((pAck p0 l1 p2 p3 p4 p5 p6 p7 p8 p9 g_0 g_5 g_6 g_7 g_8 g_9).2.2.2.2.2.1), .int .u64 ((pAck p0 l1 p2 p3 p4 p5 p6 p7 p8 p9 g_0 g_5 g_6 g_7 g_8 g_9).2.2.2.2.2.2.1), .int .u64 ((pAck p0 l1 p2 p3 p4 p5 p6 p7 p8 p9 g_0 g_5 g_6 g_7 g_8 g_9).2.2.2.2.2.2.2.1), .int .u64 ((pAck p0 l1 p2 p3 p4 p5 p6 p7 p8 p9 g_0 g_5 g_6 g_7 g_8 g_9).2.2.2.2.2.2.2.2.1), .int .u64 ((pAck p0 l1 p2 p3 p4 p5 p6 p7 p8 p9 g_0 g_5 g_6 g_7 g_8 g_9).2.2.2.2.2.2.2.2.2)]) ∧ (pAck p0 l1 p2 p3 p4 p5 p6 p7 p8 p9 g_0 g_5 g_6 g_7 g_8 g_9).2.1.length ≤ qk ∧ RB w' qA (pAck p0 l1 p2 p3 p4 p5 p6 p7 p8 p9 g_0 g_5 g_6 g_7 g_8 g_9).2.1 ∧ Below w.heap.size w w' := by
 cases g_8 with
 | false =>
  cases g_9 with
  | false =>
   by_cases e1 : uAdd p3 10000 ≤ g_0
   ·have f1 : (decide (uAdd p3 10000 ≤ g_0)) = true := decide_eq_true e1
    refine (rack_15 p0 p2 p3 p4 p5 p6 p7 p8 p9 g_0 g_1 g_2 g_3 g_4 g_5 g_6 g_7 A1 k1 Wp2 Wp3 Wp4 Wp5 Wp6 Wp7 Wp8 Wp9 Wg_0 Wg_1 Wg_2 Wg_3 Wg_4 Wg_5 Wg_6 Wg_7 w l1 hr1 hk1 hw1 hL1 f1).mono ?_
    rintro e w' ⟨qA, qk, rfl, hq, hR, hb⟩
    have hP : (pAck p0 l1 p2 p3 p4 p5 p6 p7 p8 p9 g_0 g_5 g_6 g_7 false false) = (pMove p0 (uPush l1 10 p6 g_7) g_5 g_0 p4 p5 p6 p7 p8 p9 g_0 g_6 false false true) := by simp [pAck, e1]
    rw [hP]
    obtain ⟨c1, c2, c3, c4, c5⟩ := pMove_cells p0 (uPush l1 10 p6 g_7) g_5 g_0 p4 p5 p6 p7 p8 p9 g_0 g_6 false false true
    rw [c1, c2, c3, c4, c5]
    exact ⟨qA, qk, rfl, hq, hR, hb⟩
   ·have f1 : (decide (uAdd p3 10000 ≤ g_0)) = false := decide_eq_false e1
    by_cases e2 : g_5 < p2
    ·have f2 : (decide (g_5 < p2)) = true := decide_eq_true e2
     refine (rack_16 p0 p2 p3 p4 p5 p6 p7 p8 p9 g_0 g_1 g_2 g_3 g_4 g_5 g_6 g_7 A1 k1 Wp2 Wp3 Wp4 Wp5 Wp6 Wp7 Wp8 Wp9 Wg_0 Wg_1 Wg_2 Wg_3 Wg_4 Wg_5 Wg_6 Wg_7 w l1 hr1 hk1 hw1 hL1 f1 f2).mono ?_
     rintro e w' ⟨qA, qk, rfl, hq, hR, hb⟩
     have hP : (pAck p0 l1 p2 p3 p4 p5 p6 p7 p8 p9 g_0 g_5 g_6 g_7 false false) = (pMove p0 (uPush l1 10 p6 g_7) g_5 g_0 p4 p5 p6 p7 p8 p9 g_0 g_6 false false false) := by simp [pAck, e1, e2]
     rw [hP]
     obtain ⟨c1, c2, c3, c4, c5⟩ := pMove_cells p0 (uPush l1 10 p6 g_7) g_5 g_0 p4 p5 p6 p7 p8 p9 g_0 g_6 false false false
     rw [c1, c2, c3, c4, c5]
     exact ⟨qA, qk, rfl, hq, hR, hb⟩
    ·have f2 : (decide (g_5 < p2)) = false := decide_eq_false e2
     refine (rack_17 p0 p2 p3 p4 p5 p6 p7 p8 p9 g_0 g_1 g_2 g_3 g_4 g_5 g_6 g_7 A1 k1 Wp2 Wp3 Wp4 Wp5 Wp6 Wp7 Wp8 Wp9 Wg_0 Wg_1 Wg_2 Wg_3 Wg_4 Wg_5 Wg_6 Wg_7 w l1 hr1 hk1 hw1 hL1 f1 f2).mono ?_
     rintro e w' ⟨qA, qk, rfl, hq, hR, hb⟩
     have hP : (pAck p0 l1 p2 p3 p4 p5 p6 p7 p8 p9 g_0 g_5 g_6 g_7 false false) = (pMove p0 (uPush l1 10 p6 g_7) p2 p3 p4 p5 p6 p7 p8 p9 g_0 g_6 false false false) := by simp [pAck, e1, e2]
     rw [hP]
     obtain ⟨c1, c2, c3, c4, c5⟩ := pMove_cells p0 (uPush l1 10 p6 g_7) p2 p3 p4 p5 p6 p7 p8 p9 g_0 g_6 false false false
     rw [c1, c2, c3, c4, c5]
     exact ⟨qA, qk, rfl, hq, hR, hb⟩
  | true =>
   by_cases e3 : uAdd p3 10000 ≤ g_0
   ·have f3 : (decide (uAdd p3 10000 ≤ g_0)) = true := decide_eq_true e3
    refine (rack_6 p0 p2 p3 p4 p5 p6 p7 p8 p9 g_0 g_1 g_2 g_3 g_4 g_5 g_6 g_7 A1 k1 Wp2 Wp3 Wp4 Wp5 Wp6 Wp7 Wp8 Wp9 Wg_0 Wg_1 Wg_2 Wg_3 Wg_4 Wg_5 Wg_6 Wg_7 w l1 hr1 hk1 hw1 hL1 f3).mono ?_
    rintro e w' ⟨qA, qk, rfl, hq, hR, hb⟩
    have hP : (pAck p0 l1 p2 p3 p4 p5 p6 p7 p8 p9 g_0 g_5 g_6 g_7 false true) = (pMove p0 (uPush l1 10 (uAdd p6 1) g_7) g_5 g_0 p4 p5 (uAdd p6 1) p7 p8 (uHeld (uAdd p9 (p9 / 8))) g_0 g_6 false true true) := by simp [pAck, e3]
    rw [hP]
    obtain ⟨c1, c2, c3, c4, c5⟩ := pMove_cells p0 (uPush l1 10 (uAdd p6 1) g_7) g_5 g_0 p4 p5 (uAdd p6 1) p7 p8 (uHeld (uAdd p9 (p9 / 8))) g_0 g_6 false true true
    rw [c1, c2, c3, c4, c5]
    exact ⟨qA, qk, rfl, hq, hR, hb⟩
   ·have f3 : (decide (uAdd p3 10000 ≤ g_0)) = false := decide_eq_false e3
    by_cases e4 : g_5 < p2
    ·have f4 : (decide (g_5 < p2)) = true := decide_eq_true e4
     refine (rack_7 p0 p2 p3 p4 p5 p6 p7 p8 p9 g_0 g_1 g_2 g_3 g_4 g_5 g_6 g_7 A1 k1 Wp2 Wp3 Wp4 Wp5 Wp6 Wp7 Wp8 Wp9 Wg_0 Wg_1 Wg_2 Wg_3 Wg_4 Wg_5 Wg_6 Wg_7 w l1 hr1 hk1 hw1 hL1 f3 f4).mono ?_
     rintro e w' ⟨qA, qk, rfl, hq, hR, hb⟩
     have hP : (pAck p0 l1 p2 p3 p4 p5 p6 p7 p8 p9 g_0 g_5 g_6 g_7 false true) = (pMove p0 (uPush l1 10 (uAdd p6 1) g_7) g_5 g_0 p4 p5 (uAdd p6 1) p7 p8 (uHeld (uAdd p9 (p9 / 8))) g_0 g_6 false true false) := by simp [pAck, e3, e4]
     rw [hP]
     obtain ⟨c1, c2, c3, c4, c5⟩ := pMove_cells p0 (uPush l1 10 (uAdd p6 1) g_7) g_5 g_0 p4 p5 (uAdd p6 1) p7 p8 (uHeld (uAdd p9 (p9 / 8))) g_0 g_6 false true false
     rw [c1, c2, c3, c4, c5]
     exact ⟨qA, qk, rfl, hq, hR, hb⟩
    ·have f4 : (decide (g_5 < p2)) = false := decide_eq_false e4
     refine (rack_8 p0 p2 p3 p4 p5 p6 p7 p8 p9 g_0 g_1 g_2 g_3 g_4 g_5 g_6 g_7 A1 k1 Wp2 Wp3 Wp4 Wp5 Wp6 Wp7 Wp8 Wp9 Wg_0 Wg_1 Wg_2 Wg_3 Wg_4 Wg_5 Wg_6 Wg_7 w l1 hr1 hk1 hw1 hL1 f3 f4).mono ?_
     rintro e w' ⟨qA, qk, rfl, hq, hR, hb⟩
     have hP : (pAck p0 l1 p2 p3 p4 p5 p6 p7 p8 p9 g_0 g_5 g_6 g_7 false true) = (pMove p0 (uPush l1 10 (uAdd p6 1) g_7) p2 p3 p4 p5 (uAdd p6 1) p7 p8 (uHeld (uAdd p9 (p9 / 8))) g_0 g_6 false true false) := by simp [pAck, e3, e4]
     rw [hP]
     obtain ⟨c1, c2, c3, c4, c5⟩ := pMove_cells p0 (uPush l1 10 (uAdd p6 1) g_7) p2 p3 p4 p5 (uAdd p6 1) p7 p8 (uHeld (uAdd p9 (p9 / 8))) g_0 g_6 false true false
     rw [c1, c2, c3, c4, c5]
     exact ⟨qA, qk, rfl, hq, hR, hb⟩
 | true =>
  cases g_9 with
  | false =>
   by_cases e5 : uBest l1 ≤ g_7
   ·have f5 : (decide (uBest l1 ≤ g_7)) = true := decide_eq_true e5
    by_cases e6 : uAdd p3 10000 ≤ g_0
    ·have f6 : (decide (uAdd p3 10000 ≤ g_0)) = true := decide_eq_true e6
     refine (rack_9 p0 p2 p3 p4 p5 p6 p7 p8 p9 g_0 g_1 g_2 g_3 g_4 g_5 g_6 g_7 A1 k1 Wp2 Wp3 Wp4 Wp5 Wp6 Wp7 Wp8 Wp9 Wg_0 Wg_1 Wg_2 Wg_3 Wg_4 Wg_5 Wg_6 Wg_7 w l1 hr1 hk1 hw1 hL1 f5 f6).mono ?_
     rintro e w' ⟨qA, qk, rfl, hq, hR, hb⟩
     have hP : (pAck p0 l1 p2 p3 p4 p5 p6 p7 p8 p9 g_0 g_5 g_6 g_7 true false) = (pMove p0 (uPush l1 10 p6 g_7) g_5 g_0 p4 p5 p6 p7 p8 p9 g_0 g_6 true false true) := by simp [pAck, e5, e6]
     rw [hP]
     obtain ⟨c1, c2, c3, c4, c5⟩ := pMove_cells p0 (uPush l1 10 p6 g_7) g_5 g_0 p4 p5 p6 p7 p8 p9 g_0 g_6 true false true
     rw [c1, c2, c3, c4, c5]
     exact ⟨qA, qk, rfl, hq, hR, hb⟩
    ·have f6 : (decide (uAdd p3 10000 ≤ g_0)) = false := decide_eq_false e6
     by_cases e7 : g_5 < p2
     ·have f7 : (decide (g_5 < p2)) = true := decide_eq_true e7
      refine (rack_10 p0 p2 p3 p4 p5 p6 p7 p8 p9 g_0 g_1 g_2 g_3 g_4 g_5 g_6 g_7 A1 k1 Wp2 Wp3 Wp4 Wp5 Wp6 Wp7 Wp8 Wp9 Wg_0 Wg_1 Wg_2 Wg_3 Wg_4 Wg_5 Wg_6 Wg_7 w l1 hr1 hk1 hw1 hL1 f5 f6 f7).mono ?_
      rintro e w' ⟨qA, qk, rfl, hq, hR, hb⟩
      have hP : (pAck p0 l1 p2 p3 p4 p5 p6 p7 p8 p9 g_0 g_5 g_6 g_7 true false) = (pMove p0 (uPush l1 10 p6 g_7) g_5 g_0 p4 p5 p6 p7 p8 p9 g_0 g_6 true false false) := by simp [pAck, e5, e6, e7]
      rw [hP]
      obtain ⟨c1, c2, c3, c4, c5⟩ := pMove_cells p0 (uPush l1 10 p6 g_7) g_5 g_0 p4 p5 p6 p7 p8 p9 g_0 g_6 true false false
      rw [c1, c2, c3, c4, c5]
      exact ⟨qA, qk, rfl, hq, hR, hb⟩
     ·have f7 : (decide (g_5 < p2)) = false := decide_eq_false e7
      refine (rack_11 p0 p2 p3 p4 p5 p6 p7 p8 p9 g_0 g_1 g_2 g_3 g_4 g_5 g_6 g_7 A1 k1 Wp2 Wp3 Wp4 Wp5 Wp6 Wp7 Wp8 Wp9 Wg_0 Wg_1 Wg_2 Wg_3 Wg_4 Wg_5 Wg_6 Wg_7 w l1 hr1 hk1 hw1 hL1 f5 f6 f7).mono ?_
      rintro e w' ⟨qA, qk, rfl, hq, hR, hb⟩
      have hP : (pAck p0 l1 p2 p3 p4 p5 p6 p7 p8 p9 g_0 g_5 g_6 g_7 true false) = (pMove p0 (uPush l1 10 p6 g_7) p2 p3 p4 p5 p6 p7 p8 p9 g_0 g_6 true false false) := by simp [pAck, e5, e6, e7]
      rw [hP]
      obtain ⟨c1, c2, c3, c4, c5⟩ := pMove_cells p0 (uPush l1 10 p6 g_7) p2 p3 p4 p5 p6 p7 p8 p9 g_0 g_6 true false false
      rw [c1, c2, c3, c4, c5]
      exact ⟨qA, qk, rfl, hq, hR, hb⟩
   ·have f5 : (decide (uBest l1 ≤ g_7)) = false := decide_eq_false e5
    by_cases e8 : uAdd p3 10000 ≤ g_0
    ·have f8 : (decide (uAdd p3 10000 ≤ g_0)) = true := decide_eq_true e8
     refine (rack_12 p0 p2 p3 p4 p5 p6 p7 p8 p9 g_0 g_1 g_2 g_3 g_4 g_5 g_6 g_7 A1 k1 Wp2 Wp3 Wp4 Wp5 Wp6 Wp7 Wp8 Wp9 Wg_0 Wg_1 Wg_2 Wg_3 Wg_4 Wg_5 Wg_6 Wg_7 w l1 hr1 hk1 hw1 hL1 f5 f8).mono ?_
     rintro e w' ⟨qA, qk, rfl, hq, hR, hb⟩
     have hP : (pAck p0 l1 p2 p3 p4 p5 p6 p7 p8 p9 g_0 g_5 g_6 g_7 true false) = (pMove p0 l1 g_5 g_0 p4 p5 p6 p7 p8 p9 g_0 g_6 true false true) := by simp [pAck, e5, e8]
     rw [hP]
     obtain ⟨c1, c2, c3, c4, c5⟩ := pMove_cells p0 l1 g_5 g_0 p4 p5 p6 p7 p8 p9 g_0 g_6 true false true
     rw [c1, c2, c3, c4, c5]
     exact ⟨qA, qk, rfl, hq, hR, hb⟩
    ·have f8 : (decide (uAdd p3 10000 ≤ g_0)) = false := decide_eq_false e8
     by_cases e9 : g_5 < p2
     ·have f9 : (decide (g_5 < p2)) = true := decide_eq_true e9
      refine (rack_13 p0 p2 p3 p4 p5 p6 p7 p8 p9 g_0 g_1 g_2 g_3 g_4 g_5 g_6 g_7 A1 k1 Wp2 Wp3 Wp4 Wp5 Wp6 Wp7 Wp8 Wp9 Wg_0 Wg_1 Wg_2 Wg_3 Wg_4 Wg_5 Wg_6 Wg_7 w l1 hr1 hk1 hw1 hL1 f5 f8 f9).mono ?_
      rintro e w' ⟨qA, qk, rfl, hq, hR, hb⟩
      have hP : (pAck p0 l1 p2 p3 p4 p5 p6 p7 p8 p9 g_0 g_5 g_6 g_7 true false) = (pMove p0 l1 g_5 g_0 p4 p5 p6 p7 p8 p9 g_0 g_6 true false false) := by simp [pAck, e5, e8, e9]
      rw [hP]
      obtain ⟨c1, c2, c3, c4, c5⟩ := pMove_cells p0 l1 g_5 g_0 p4 p5 p6 p7 p8 p9 g_0 g_6 true false false
      rw [c1, c2, c3, c4, c5]
      exact ⟨qA, qk, rfl, hq, hR, hb⟩
     ·have f9 : (decide (g_5 < p2)) = false := decide_eq_false e9
      refine (rack_14 p0 p2 p3 p4 p5 p6 p7 p8 p9 g_0 g_1 g_2 g_3 g_4 g_5 g_6 g_7 A1 k1 Wp2 Wp3 Wp4 Wp5 Wp6 Wp7 Wp8 Wp9 Wg_0 Wg_1 Wg_2 Wg_3 Wg_4 Wg_5 Wg_6 Wg_7 w l1 hr1 hk1 hw1 hL1 f5 f8 f9).mono ?_
      rintro e w' ⟨qA, qk, rfl, hq, hR, hb⟩
      have hP : (pAck p0 l1 p2 p3 p4 p5 p6 p7 p8 p9 g_0 g_5 g_6 g_7 true false) = (pMove p0 l1 p2 p3 p4 p5 p6 p7 p8 p9 g_0 g_6 true false false) := by simp [pAck, e5, e8, e9]
      rw [hP]
      obtain ⟨c1, c2, c3, c4, c5⟩ := pMove_cells p0 l1 p2 p3 p4 p5 p6 p7 p8 p9 g_0 g_6 true false false
      rw [c1, c2, c3, c4, c5]
      exact ⟨qA, qk, rfl, hq, hR, hb⟩
  | true =>
   by_cases e10 : uBest l1 ≤ g_7
   ·have f10 : (decide (uBest l1 ≤ g_7)) = true := decide_eq_true e10
    by_cases e11 : uAdd p3 10000 ≤ g_0
    ·have f11 : (decide (uAdd p3 10000 ≤ g_0)) = true := decide_eq_true e11
     refine (rack_0 p0 p2 p3 p4 p5 p6 p7 p8 p9 g_0 g_1 g_2 g_3 g_4 g_5 g_6 g_7 A1 k1 Wp2 Wp3 Wp4 Wp5 Wp6 Wp7 Wp8 Wp9 Wg_0 Wg_1 Wg_2 Wg_3 Wg_4 Wg_5 Wg_6 Wg_7 w l1 hr1 hk1 hw1 hL1 f10 f11).mono ?_
     rintro e w' ⟨qA, qk, rfl, hq, hR, hb⟩
     have hP : (pAck p0 l1 p2 p3 p4 p5 p6 p7 p8 p9 g_0 g_5 g_6 g_7 true true) = (pMove p0 (uPush l1 10 (uAdd p6 1) g_7) g_5 g_0 p4 p5 (uAdd p6 1) p7 p8 (uHeld (uAdd p9 (p9 / 8))) g_0 g_6 true true true) := by simp [pAck, e10, e11]
     rw [hP]
     obtain ⟨c1, c2, c3, c4, c5⟩ := pMove_cells p0 (uPush l1 10 (uAdd p6 1) g_7) g_5 g_0 p4 p5 (uAdd p6 1) p7 p8 (uHeld (uAdd p9 (p9 / 8))) g_0 g_6 true true true
     rw [c1, c2, c3, c4, c5]
     exact ⟨qA, qk, rfl, hq, hR, hb⟩
    ·have f11 : (decide (uAdd p3 10000 ≤ g_0)) = false := decide_eq_false e11
     by_cases e12 : g_5 < p2
     ·have f12 : (decide (g_5 < p2)) = true := decide_eq_true e12
      refine (rack_1 p0 p2 p3 p4 p5 p6 p7 p8 p9 g_0 g_1 g_2 g_3 g_4 g_5 g_6 g_7 A1 k1 Wp2 Wp3 Wp4 Wp5 Wp6 Wp7 Wp8 Wp9 Wg_0 Wg_1 Wg_2 Wg_3 Wg_4 Wg_5 Wg_6 Wg_7 w l1 hr1 hk1 hw1 hL1 f10 f11 f12).mono ?_
      rintro e w' ⟨qA, qk, rfl, hq, hR, hb⟩
      have hP : (pAck p0 l1 p2 p3 p4 p5 p6 p7 p8 p9 g_0 g_5 g_6 g_7 true true) = (pMove p0 (uPush l1 10 (uAdd p6 1) g_7) g_5 g_0 p4 p5 (uAdd p6 1) p7 p8 (uHeld (uAdd p9 (p9 / 8))) g_0 g_6 true true false) := by simp [pAck, e10, e11, e12]
      rw [hP]
      obtain ⟨c1, c2, c3, c4, c5⟩ := pMove_cells p0 (uPush l1 10 (uAdd p6 1) g_7) g_5 g_0 p4 p5 (uAdd p6 1) p7 p8 (uHeld (uAdd p9 (p9 / 8))) g_0 g_6 true true false
      rw [c1, c2, c3, c4, c5]
      exact ⟨qA, qk, rfl, hq, hR, hb⟩
     ·have f12 : (decide (g_5 < p2)) = false := decide_eq_false e12
      refine (rack_2 p0 p2 p3 p4 p5 p6 p7 p8 p9 g_0 g_1 g_2 g_3 g_4 g_5 g_6 g_7 A1 k1 Wp2 Wp3 Wp4 Wp5 Wp6 Wp7 Wp8 Wp9 Wg_0 Wg_1 Wg_2 Wg_3 Wg_4 Wg_5 Wg_6 Wg_7 w l1 hr1 hk1 hw1 hL1 f10 f11 f12).mono ?_
      rintro e w' ⟨qA, qk, rfl, hq, hR, hb⟩
      have hP : (pAck p0 l1 p2 p3 p4 p5 p6 p7 p8 p9 g_0 g_5 g_6 g_7 true true) = (pMove p0 (uPush l1 10 (uAdd p6 1) g_7) p2 p3 p4 p5 (uAdd p6 1) p7 p8 (uHeld (uAdd p9 (p9 / 8))) g_0 g_6 true true false) := by simp [pAck, e10, e11, e12]
      rw [hP]
      obtain ⟨c1, c2, c3, c4, c5⟩ := pMove_cells p0 (uPush l1 10 (uAdd p6 1) g_7) p2 p3 p4 p5 (uAdd p6 1) p7 p8 (uHeld (uAdd p9 (p9 / 8))) g_0 g_6 true true false
      rw [c1, c2, c3, c4, c5]
      exact ⟨qA, qk, rfl, hq, hR, hb⟩
   ·have f10 : (decide (uBest l1 ≤ g_7)) = false := decide_eq_false e10
    by_cases e13 : uAdd p3 10000 ≤ g_0
    ·have f13 : (decide (uAdd p3 10000 ≤ g_0)) = true := decide_eq_true e13
     refine (rack_3 p0 p2 p3 p4 p5 p6 p7 p8 p9 g_0 g_1 g_2 g_3 g_4 g_5 g_6 g_7 A1 k1 Wp2 Wp3 Wp4 Wp5 Wp6 Wp7 Wp8 Wp9 Wg_0 Wg_1 Wg_2 Wg_3 Wg_4 Wg_5 Wg_6 Wg_7 w l1 hr1 hk1 hw1 hL1 f10 f13).mono ?_
     rintro e w' ⟨qA, qk, rfl, hq, hR, hb⟩
     have hP : (pAck p0 l1 p2 p3 p4 p5 p6 p7 p8 p9 g_0 g_5 g_6 g_7 true true) = (pMove p0 l1 g_5 g_0 p4 p5 (uAdd p6 1) p7 p8 (uHeld (uAdd p9 (p9 / 8))) g_0 g_6 true true true) := by simp [pAck, e10, e13]
     rw [hP]
     obtain ⟨c1, c2, c3, c4, c5⟩ := pMove_cells p0 l1 g_5 g_0 p4 p5 (uAdd p6 1) p7 p8 (uHeld (uAdd p9 (p9 / 8))) g_0 g_6 true true true
     rw [c1, c2, c3, c4, c5]
     exact ⟨qA, qk, rfl, hq, hR, hb⟩
    ·have f13 : (decide (uAdd p3 10000 ≤ g_0)) = false := decide_eq_false e13
     by_cases e14 : g_5 < p2
     ·have f14 : (decide (g_5 < p2)) = true := decide_eq_true e14
      refine (rack_4 p0 p2 p3 p4 p5 p6 p7 p8 p9 g_0 g_1 g_2 g_3 g_4 g_5 g_6 g_7 A1 k1 Wp2 Wp3 Wp4 Wp5 Wp6 Wp7 Wp8 Wp9 Wg_0 Wg_1 Wg_2 Wg_3 Wg_4 Wg_5 Wg_6 Wg_7 w l1 hr1 hk1 hw1 hL1 f10 f13 f14).mono ?_
      rintro e w' ⟨qA, qk, rfl, hq, hR, hb⟩
      have hP : (pAck p0 l1 p2 p3 p4 p5 p6 p7 p8 p9 g_0 g_5 g_6 g_7 true true) = (pMove p0 l1 g_5 g_0 p4 p5 (uAdd p6 1) p7 p8 (uHeld (uAdd p9 (p9 / 8))) g_0 g_6 true true false) := by simp [pAck, e10, e13, e14]
      rw [hP]
      obtain ⟨c1, c2, c3, c4, c5⟩ := pMove_cells p0 l1 g_5 g_0 p4 p5 (uAdd p6 1) p7 p8 (uHeld (uAdd p9 (p9 / 8))) g_0 g_6 true true false
      rw [c1, c2, c3, c4, c5]
      exact ⟨qA, qk, rfl, hq, hR, hb⟩
     ·have f14 : (decide (g_5 < p2)) = false := decide_eq_false e14
      refine (rack_5 p0 p2 p3 p4 p5 p6 p7 p8 p9 g_0 g_1 g_2 g_3 g_4 g_5 g_6 g_7 A1 k1 Wp2 Wp3 Wp4 Wp5 Wp6 Wp7 Wp8 Wp9 Wg_0 Wg_1 Wg_2 Wg_3 Wg_4 Wg_5 Wg_6 Wg_7 w l1 hr1 hk1 hw1 hL1 f10 f13 f14).mono ?_
      rintro e w' ⟨qA, qk, rfl, hq, hR, hb⟩
      have hP : (pAck p0 l1 p2 p3 p4 p5 p6 p7 p8 p9 g_0 g_5 g_6 g_7 true true) = (pMove p0 l1 p2 p3 p4 p5 (uAdd p6 1) p7 p8 (uHeld (uAdd p9 (p9 / 8))) g_0 g_6 true true false) := by simp [pAck, e10, e13, e14]
      rw [hP]
      obtain ⟨c1, c2, c3, c4, c5⟩ := pMove_cells p0 l1 p2 p3 p4 p5 (uAdd p6 1) p7 p8 (uHeld (uAdd p9 (p9 / 8))) g_0 g_6 true true false
      rw [c1, c2, c3, c4, c5]
      exact ⟨qA, qk, rfl, hq, hR, hb⟩
def uPart (ph : Int) : Int := if ph % 8 = 0 then 320 else if ph % 8 = 1 then 192 else 256
def uRate (p0 : Int) (l : List S52) (ph : Int) : Int :=
 if uBest l = 0 then uMulDiv 12000 1000 333 else if p0 = 0 then uGain (uBest l) 739 else if p0 = 1 then uGain (uBest l) 89
 else if p0 = 2 then uGain (uBest l) (uPart ph) else uGain (uBest l) 256
theorem uPart_w (ph : Int) : W64 (uPart ph) := by
 unfold uPart
 repeat' split
 all_goals omega
theorem partR_0 (ph : Int) (Wph : W64 ph) (w : World) (h0 : ((ph % 8) == 0) = true) :
  Calls Try.prog 39 #[.int .u64 ph] w fun e w' => e = .returned (.int .u64 320) ∧ Below w.heap.size w w' := by
 have q0 : IntKind.u64.wrap (Int.tmod ph 8) = ph % 8 := wmod Wph 8 (by decide)
 have HS := Since.refl w
 go_enter Try.func39, Try.ntmps39
 go_wp2
 all_goals (go_ret; exact ⟨rfl, HS.out⟩)
theorem partR_1 (ph : Int) (Wph : W64 ph) (w : World) (h0 : ((ph % 8) == 0) = false) (h1 : ((ph % 8) == 1) = true) :
  Calls Try.prog 39 #[.int .u64 ph] w fun e w' => e = .returned (.int .u64 192) ∧ Below w.heap.size w w' := by
 have q0 : IntKind.u64.wrap (Int.tmod ph 8) = ph % 8 := wmod Wph 8 (by decide)
 have HS := Since.refl w
 go_enter Try.func39, Try.ntmps39
 go_wp2
 all_goals (go_ret; exact ⟨rfl, HS.out⟩)
theorem partR_2 (ph : Int) (Wph : W64 ph) (w : World) (h0 : ((ph % 8) == 0) = false) (h1 : ((ph % 8) == 1) = false) :
  Calls Try.prog 39 #[.int .u64 ph] w fun e w' => e = .returned (.int .u64 256) ∧ Below w.heap.size w w' := by
 have q0 : IntKind.u64.wrap (Int.tmod ph 8) = ph % 8 := wmod Wph 8 (by decide)
 have HS := Since.refl w
 go_enter Try.func39, Try.ntmps39
 go_wp2
 all_goals (go_ret; exact ⟨rfl, HS.out⟩)
theorem partC (ph : Int) (Wph : W64 ph) (w : World) : Calls Try.prog 39 #[.int .u64 ph] w fun e w' => e = .returned (.int .u64 (uPart ph)) ∧ Below w.heap.size w w' := by
 by_cases e1 : (ph % 8) = 0
 ·have f1 : ((ph % 8) == 0) = true := (by simpa using e1)
  refine (partR_0 ph Wph w f1).mono ?_
  rintro e w' ⟨rfl, hb⟩
  refine ⟨?_, hb⟩
  simp [uPart, e1]
 ·have f1 : ((ph % 8) == 0) = false := (by simpa using e1)
  by_cases e2 : (ph % 8) = 1
  ·have f2 : ((ph % 8) == 1) = true := (by simpa using e2)
   refine (partR_1 ph Wph w f1 f2).mono ?_
   rintro e w' ⟨rfl, hb⟩
   refine ⟨?_, hb⟩
   simp [uPart, e1, e2]
  ·have f2 : ((ph % 8) == 1) = false := (by simpa using e2)
   refine (partR_2 ph Wph w f1 f2).mono ?_
   rintro e w' ⟨rfl, hb⟩
   refine ⟨?_, hb⟩
   simp [uPart, e1, e2]
theorem rateR_0 (p0 p2 p3 p4 p5 p6 p7 p8 p9 : Int) (A1 : Option Addr) (k1 : Nat)  (w : World) (l1 : List S52) (hr1 : Kd.C k52 w A1 l1.length l1) (hk1 : l1.length ≤ k1) (hw1 : SWf l1) (h0 : ((uBest l1) == 0) = true) :
  Calls Try.prog 22 #[.agg #[.int .i64 p0, .slice A1 l1.length k1, .int .u64 p2, .int .u64 p3, .int .u64 p4, .int .u64 p5, .int .u64 p6, .int .u64 p7, .int .u64 p8, .int .u64 p9]] w fun e w' => e = .returned (.int .u64 (uMulDiv 12000 1000 333)) ∧ Below w.heap.size w w' := by
 have hu26 := Try.underlying26
 have HS := Since.refl w
 go_enter Try.func22, Try.ntmps22
 go_wp2_with (first | (refine seg_new rfl (N := 1) rfl [.int .i64 p0, .slice A1 l1.length k1, .int .u64 p2, .int .u64 p3, .int .u64 p4, .int .u64 p5, .int .u64 p6, .int .u64 p7, .int .u64 p8, .int .u64 p9] 26 ?hr ?_; (case hr => rfl); intro g0 hg w1 hn hl; have GEg0 := ge_new HS hg; clear hg; replace HS := HS.below hl; have Bg0 := hn; clear hl hn) | (refine seg_load rfl (N := 3) rfl 26 (.tmp 1) rfl g0 0 [.int .i64 p0, .slice A1 l1.length k1, .int .u64 p2, .int .u64 p3, .int .u64 p4, .int .u64 p5, .int .u64 p6, .int .u64 p7, .int .u64 p8, .int .u64 p9] rfl Bg0 rfl Try.underlying26 rfl (by kernel_rfl) ?_) | ((go_at_call 32); (with_reducible refine (rbestC p0 p2 p3 p4 p5 p6 p7 p8 p9 A1 k1 l1 _ (Kd.C_below hr1 HS.out) hk1).mono ?_); rintro e w2 ⟨rfl, hl⟩; replace Bg0 := Bg0.below hl; replace HS := HS.below hl; clear hl) | ((go_at_call 36); (with_reducible refine (wigwagref01_MulDivT.C 12000 1000 333 (by decide) (by decide) (by decide) _).mono ?_); rintro e w3 ⟨rfl, hd⟩; have hl := hd.below; clear hd; replace Bg0 := Bg0.below hl; replace HS := HS.below hl; clear hl))
 all_goals (go_ret; exact ⟨rfl, HS.out⟩)
theorem rateR_1 (p0 p2 p3 p4 p5 p6 p7 p8 p9 : Int) (A1 : Option Addr) (k1 : Nat)  (w : World) (l1 : List S52) (hr1 : Kd.C k52 w A1 l1.length l1) (hk1 : l1.length ≤ k1) (hw1 : SWf l1) (h0 : ((uBest l1) == 0) = false) (h1 : (p0 == 0) = true) :
  Calls Try.prog 22 #[.agg #[.int .i64 p0, .slice A1 l1.length k1, .int .u64 p2, .int .u64 p3, .int .u64 p4, .int .u64 p5, .int .u64 p6, .int .u64 p7, .int .u64 p8, .int .u64 p9]] w fun e w' => e = .returned (.int .u64 (uGain (uBest l1) 739)) ∧ Below w.heap.size w w' := by
 have hu26 := Try.underlying26
 have HS := Since.refl w
 go_enter Try.func22, Try.ntmps22
 go_wp2_with (first | (refine seg_new rfl (N := 1) rfl [.int .i64 p0, .slice A1 l1.length k1, .int .u64 p2, .int .u64 p3, .int .u64 p4, .int .u64 p5, .int .u64 p6, .int .u64 p7, .int .u64 p8, .int .u64 p9] 26 ?hr ?_; (case hr => rfl); intro g0 hg w1 hn hl; have GEg0 := ge_new HS hg; clear hg; replace HS := HS.below hl; have Bg0 := hn; clear hl hn) | (refine seg_load rfl (N := 3) rfl 26 (.tmp 1) rfl g0 0 [.int .i64 p0, .slice A1 l1.length k1, .int .u64 p2, .int .u64 p3, .int .u64 p4, .int .u64 p5, .int .u64 p6, .int .u64 p7, .int .u64 p8, .int .u64 p9] rfl Bg0 rfl Try.underlying26 rfl (by kernel_rfl) ?_) | ((go_at_call 32); (with_reducible refine (rbestC p0 p2 p3 p4 p5 p6 p7 p8 p9 A1 k1 l1 _ (Kd.C_below hr1 HS.out) hk1).mono ?_); rintro e w2 ⟨rfl, hl⟩; replace Bg0 := Bg0.below hl; replace HS := HS.below hl; clear hl; have kg0_0 := Bg0.at 0 rfl) | (refine seg_load rfl (N := 10) rfl 26 (.tmp 1) rfl g0 0 [.int .i64 p0, .slice A1 l1.length k1, .int .u64 p2, .int .u64 p3, .int .u64 p4, .int .u64 p5, .int .u64 p6, .int .u64 p7, .int .u64 p8, .int .u64 p9] rfl Bg0 rfl Try.underlying26 rfl (by kernel_rfl) ?_) | ((go_at_call 32); (with_reducible refine (rbestC p0 p2 p3 p4 p5 p6 p7 p8 p9 A1 k1 l1 _ (Kd.C_below hr1 HS.out) hk1).mono ?_); rintro e w3 ⟨rfl, hl⟩; replace Bg0 := Bg0.below hl; replace HS := HS.below hl; clear hl; clear kg0_0) | ((go_at_call 38); (with_reducible refine (rgainC (uBest l1) 739 (best_w hw1) (by decide) _).mono ?_); rintro e w4 ⟨rfl, hl⟩; replace Bg0 := Bg0.below hl; replace HS := HS.below hl; clear hl))
 all_goals (go_ret; exact ⟨rfl, HS.out⟩)
theorem rateR_2 (p0 p2 p3 p4 p5 p6 p7 p8 p9 : Int) (A1 : Option Addr) (k1 : Nat)  (w : World) (l1 : List S52) (hr1 : Kd.C k52 w A1 l1.length l1) (hk1 : l1.length ≤ k1) (hw1 : SWf l1) (h0 : ((uBest l1) == 0) = false) (h1 : (p0 == 0) = false) (h2 : (p0 == 1) = true) :
  Calls Try.prog 22 #[.agg #[.int .i64 p0, .slice A1 l1.length k1, .int .u64 p2, .int .u64 p3, .int .u64 p4, .int .u64 p5, .int .u64 p6, .int .u64 p7, .int .u64 p8, .int .u64 p9]] w fun e w' => e = .returned (.int .u64 (uGain (uBest l1) 89)) ∧ Below w.heap.size w w' := by
 have hu26 := Try.underlying26
 have HS := Since.refl w
 go_enter Try.func22, Try.ntmps22
 go_wp2_with (first | (refine seg_new rfl (N := 1) rfl [.int .i64 p0, .slice A1 l1.length k1, .int .u64 p2, .int .u64 p3, .int .u64 p4, .int .u64 p5, .int .u64 p6, .int .u64 p7, .int .u64 p8, .int .u64 p9] 26 ?hr ?_; (case hr => rfl); intro g0 hg w1 hn hl; have GEg0 := ge_new HS hg; clear hg; replace HS := HS.below hl; have Bg0 := hn; clear hl hn) | (refine seg_load rfl (N := 3) rfl 26 (.tmp 1) rfl g0 0 [.int .i64 p0, .slice A1 l1.length k1, .int .u64 p2, .int .u64 p3, .int .u64 p4, .int .u64 p5, .int .u64 p6, .int .u64 p7, .int .u64 p8, .int .u64 p9] rfl Bg0 rfl Try.underlying26 rfl (by kernel_rfl) ?_) | ((go_at_call 32); (with_reducible refine (rbestC p0 p2 p3 p4 p5 p6 p7 p8 p9 A1 k1 l1 _ (Kd.C_below hr1 HS.out) hk1).mono ?_); rintro e w2 ⟨rfl, hl⟩; replace Bg0 := Bg0.below hl; replace HS := HS.below hl; clear hl; have kg0_0 := Bg0.at 0 rfl) | (refine seg_load rfl (N := 16) rfl 26 (.tmp 1) rfl g0 0 [.int .i64 p0, .slice A1 l1.length k1, .int .u64 p2, .int .u64 p3, .int .u64 p4, .int .u64 p5, .int .u64 p6, .int .u64 p7, .int .u64 p8, .int .u64 p9] rfl Bg0 rfl Try.underlying26 rfl (by kernel_rfl) ?_) | ((go_at_call 32); (with_reducible refine (rbestC p0 p2 p3 p4 p5 p6 p7 p8 p9 A1 k1 l1 _ (Kd.C_below hr1 HS.out) hk1).mono ?_); rintro e w3 ⟨rfl, hl⟩; replace Bg0 := Bg0.below hl; replace HS := HS.below hl; clear hl; clear kg0_0) | ((go_at_call 38); (with_reducible refine (rgainC (uBest l1) 89 (best_w hw1) (by decide) _).mono ?_); rintro e w4 ⟨rfl, hl⟩; replace Bg0 := Bg0.below hl; replace HS := HS.below hl; clear hl))
 all_goals (go_ret; exact ⟨rfl, HS.out⟩)
theorem rateR_3 (p0 p2 p3 p4 p5 p6 p7 p8 p9 : Int) (A1 : Option Addr) (k1 : Nat) (Wp7 : W64 p7) (w : World) (l1 : List S52) (hr1 : Kd.C k52 w A1 l1.length l1) (hk1 : l1.length ≤ k1) (hw1 : SWf l1) (h0 : ((uBest l1) == 0) = false) (h1 : (p0 == 0) = false) (h2 : (p0 == 1) = false) (h3 : (p0 == 2) = true) :
  Calls Try.prog 22 #[.agg #[.int .i64 p0, .slice A1 l1.length k1, .int .u64 p2, .int .u64 p3, .int .u64 p4, .int .u64 p5, .int .u64 p6, .int .u64 p7, .int .u64 p8, .int .u64 p9]] w fun e w' => e = .returned (.int .u64 (uGain (uBest l1) (uPart p7))) ∧ Below w.heap.size w w' := by
 have hu26 := Try.underlying26
 have HS := Since.refl w
 go_enter Try.func22, Try.ntmps22
 go_wp2_with (first | (refine seg_new rfl (N := 1) rfl [.int .i64 p0, .slice A1 l1.length k1, .int .u64 p2, .int .u64 p3, .int .u64 p4, .int .u64 p5, .int .u64 p6, .int .u64 p7, .int .u64 p8, .int .u64 p9] 26 ?hr ?_; (case hr => rfl); intro g0 hg w1 hn hl; have GEg0 := ge_new HS hg; clear hg; replace HS := HS.below hl; have Bg0 := hn; clear hl hn) | (refine seg_load rfl (N := 3) rfl 26 (.tmp 1) rfl g0 0 [.int .i64 p0, .slice A1 l1.length k1, .int .u64 p2, .int .u64 p3, .int .u64 p4, .int .u64 p5, .int .u64 p6, .int .u64 p7, .int .u64 p8, .int .u64 p9] rfl Bg0 rfl Try.underlying26 rfl (by kernel_rfl) ?_) | ((go_at_call 32); (with_reducible refine (rbestC p0 p2 p3 p4 p5 p6 p7 p8 p9 A1 k1 l1 _ (Kd.C_below hr1 HS.out) hk1).mono ?_); rintro e w2 ⟨rfl, hl⟩; replace Bg0 := Bg0.below hl; replace HS := HS.below hl; clear hl; have kg0_0 := Bg0.at 0 rfl; have kg0_7 := Bg0.at 7 rfl))
 refine start_ (n := 7) (S := fun w' => Blk w' g0 26 [.int .i64 p0, .slice A1 l1.length k1, .int .u64 p2, .int .u64 p3, .int .u64 p4, .int .u64 p5, .int .u64 p6, .int .u64 p7, .int .u64 p8, .int .u64 p9] ∧ w'.cell? ⟨g0, 7, none⟩ = some (.int .u64 p7)) (ds := []) (bs 7 0) (by kernel_rfl) rfl rfl ⟨Bg0.drew, ((Bg0.drew.cell 7).trans rfl)⟩ (fun hHeld => ?_)
 generalize hWd : World.drew w2 = w3 at hHeld ⊢
 have hl : Below w2.heap.size w2 w3 := (by rw [← hWd]; exact below_drew1 (Below.refl _ _))
 clear hWd
 replace Bg0 := Bg0.below hl; replace HS := HS.below hl; clear hl; replace kg0_0 := Bg0.at 0 rfl; replace kg0_7 := Bg0.at 7 rfl
 refine pu 2 24 (.pointer (some ⟨g0, 7, none⟩)) 4 rfl rfl (by kernel_rfl) (fun _ _ _ h => h) (by rfl) (fun _ => by kernel_rfl) rfl ?_
 refine norm_ (a' := ?_) ?_ ?_
 rotate_left
 ·simp only [Act.put, zA_, z0_, z1_, i64_w, i32_w]
  rfl
 refine take_ (i := 0) (N := some 22) (v := .agg #[.int .i64 p0, .slice A1 l1.length k1, .int .u64 p2, .int .u64 p3, .int .u64 p4, .int .u64 p5, .int .u64 p6, .int .u64 p7, .int .u64 p8, .int .u64 p9]) (a' := ?_) (bs 7 5) rfl rfl (by kernel_rfl) (fun _ _ _ h => h) (Or.inl ⟨by rfl, ?_⟩) hHeld ?_ ?_
 ·rintro w' ⟨s0, s1⟩
  exact exec_seg_load 26 (.tmp 1) (by rfl) g0 0 [.int .i64 p0, .slice A1 l1.length k1, .int .u64 p2, .int .u64 p3, .int .u64 p4, .int .u64 p5, .int .u64 p6, .int .u64 p7, .int .u64 p8, .int .u64 p9] (by rfl) s0 (by rfl) Try.underlying26 (by rfl) (by kernel_rfl)
 rotate_left
 ·simp only [Act.put, zA_, z0_, z1_, i64_w, i32_w]
  rfl
 refine take_ (i := 3) (N := some 25) (v := ?_) (a' := ?_) (bs 7 13) rfl rfl (by kernel_rfl) (fun _ _ _ h => h) (Or.inl ⟨by rfl, ?_⟩) hHeld ?_ ?_
 rotate_left
 ·rintro w' ⟨s0, s1⟩
  go_simp
  with_reducible rfl
 rotate_left
 ·simp only [Act.put, zA_, z0_, z1_, i64_w, i32_w]
  rfl
 refine one_ (i := 1) (N := some 23) (bs 7 15) rfl rfl (by kernel_rfl) (by decide) (fun K hK => ?_)
 refine goes_ Try.func32 (by kernel_rfl) rfl #[.agg #[.int .i64 p0, .slice A1 l1.length k1, .int .u64 p2, .int .u64 p3, .int .u64 p4, .int .u64 p5, .int .u64 p6, .int .u64 p7, .int .u64 p8, .int .u64 p9]] (by rfl) rfl rfl (by simp only [List.map_toArray, List.map_cons, List.map_nil]; rfl) ?_
 with_reducible refine (rbestC p0 p2 p3 p4 p5 p6 p7 p8 p9 A1 k1 l1 _ (Kd.C_below hr1 HS.out) hk1).mono ?_
 rintro e w4 ⟨rfl, hl⟩
 refine ⟨_, rfl, ?_⟩
 replace Bg0 := Bg0.below hl; replace HS := HS.below hl; clear hl; replace kg0_0 := Bg0.at 0 rfl; replace kg0_7 := Bg0.at 7 rfl
 refine hK.out _ _ ⟨Bg0, ((Bg0.cell 7).trans rfl)⟩ (fun hHeld => ?_)
 clear hK K
 refine norm_ (a' := ?_) ?_ ?_
 rotate_left
 ·show Act.put _ (some 23) _ = _
  simp only [Act.put, zA_, z0_, z1_, i64_w, i32_w]
  rfl
 refine one_ (i := 4) (N := some 26) (bs 7 31) rfl rfl (by kernel_rfl) (by decide) (fun K hK => ?_)
 refine goes_ Try.func39 (by kernel_rfl) rfl #[.int .u64 p7] (by rfl) rfl rfl (by simp only [List.map_toArray, List.map_cons, List.map_nil]; rfl) ?_
 with_reducible refine (partC p7 Wp7 _).mono ?_
 rintro e w5 ⟨rfl, hl⟩
 refine ⟨_, rfl, ?_⟩
 replace Bg0 := Bg0.below hl; replace HS := HS.below hl; clear hl; replace kg0_0 := Bg0.at 0 rfl; replace kg0_7 := Bg0.at 7 rfl
 refine hK.out _ _ ⟨Bg0, ((Bg0.cell 7).trans rfl)⟩ (fun hHeld => ?_)
 clear hK K
 refine norm_ (a' := ?_) ?_ ?_
 rotate_left
 ·show Act.put _ (some 26) _ = _
  simp only [Act.put, zA_, z0_, z1_, i64_w, i32_w]
  rfl
 refine one_ (i := 5) (N := some 27) (bs 7 63) rfl rfl (by kernel_rfl) (by decide) (fun K hK => ?_)
 refine goes_ Try.func38 (by kernel_rfl) rfl #[.int .u64 (uBest l1), .int .u64 (uPart p7)] (by rfl) rfl rfl (by simp only [List.map_toArray, List.map_cons, List.map_nil]; rfl) ?_
 with_reducible refine (rgainC (uBest l1) (uPart p7) (best_w hw1) (uPart_w _) _).mono ?_
 rintro e w6 ⟨rfl, hl⟩
 refine ⟨_, rfl, ?_⟩
 replace Bg0 := Bg0.below hl; replace HS := HS.below hl; clear hl; replace kg0_0 := Bg0.at 0 rfl; replace kg0_7 := Bg0.at 7 rfl
 refine hK.out _ _ ⟨Bg0, ((Bg0.cell 7).trans rfl)⟩ (fun hHeld => ?_)
 clear hK K
 refine norm_ (a' := ?_) ?_ ?_
 rotate_left
 ·show Act.put _ (some 27) _ = _
  simp only [Act.put, zA_, z0_, z1_, i64_w, i32_w]
  rfl
 refine pure_ (i := 6) (N := some 2) (v := ?_) (a' := ?_) (bs 7 127) rfl rfl (by kernel_rfl) (fun _ _ _ h => h) (Or.inl ⟨by rfl, ?_⟩) ?_ ?_
 rotate_left
 ·intro w'
  go_simp
  with_reducible rfl
 rotate_left
 ·simp only [Act.put, zA_, z0_, z1_, i64_w, i32_w]
  rfl
 refine done_ (by kernel_rfl) ?_
 clear kg0_0 kg0_7
 go_wp2
 all_goals (go_ret; exact ⟨rfl, HS.out⟩)
theorem rateR_4 (p0 p2 p3 p4 p5 p6 p7 p8 p9 : Int) (A1 : Option Addr) (k1 : Nat)  (w : World) (l1 : List S52) (hr1 : Kd.C k52 w A1 l1.length l1) (hk1 : l1.length ≤ k1) (hw1 : SWf l1) (h0 : ((uBest l1) == 0) = false) (h1 : (p0 == 0) = false) (h2 : (p0 == 1) = false) (h3 : (p0 == 2) = false) :
  Calls Try.prog 22 #[.agg #[.int .i64 p0, .slice A1 l1.length k1, .int .u64 p2, .int .u64 p3, .int .u64 p4, .int .u64 p5, .int .u64 p6, .int .u64 p7, .int .u64 p8, .int .u64 p9]] w fun e w' => e = .returned (.int .u64 (uGain (uBest l1) 256)) ∧ Below w.heap.size w w' := by
 have hu26 := Try.underlying26
 have HS := Since.refl w
 go_enter Try.func22, Try.ntmps22
 go_wp2_with (first | (refine seg_new rfl (N := 1) rfl [.int .i64 p0, .slice A1 l1.length k1, .int .u64 p2, .int .u64 p3, .int .u64 p4, .int .u64 p5, .int .u64 p6, .int .u64 p7, .int .u64 p8, .int .u64 p9] 26 ?hr ?_; (case hr => rfl); intro g0 hg w1 hn hl; have GEg0 := ge_new HS hg; clear hg; replace HS := HS.below hl; have Bg0 := hn; clear hl hn) | (refine seg_load rfl (N := 3) rfl 26 (.tmp 1) rfl g0 0 [.int .i64 p0, .slice A1 l1.length k1, .int .u64 p2, .int .u64 p3, .int .u64 p4, .int .u64 p5, .int .u64 p6, .int .u64 p7, .int .u64 p8, .int .u64 p9] rfl Bg0 rfl Try.underlying26 rfl (by kernel_rfl) ?_) | ((go_at_call 32); (with_reducible refine (rbestC p0 p2 p3 p4 p5 p6 p7 p8 p9 A1 k1 l1 _ (Kd.C_below hr1 HS.out) hk1).mono ?_); rintro e w2 ⟨rfl, hl⟩; replace Bg0 := Bg0.below hl; replace HS := HS.below hl; clear hl; have kg0_0 := Bg0.at 0 rfl) | (refine seg_load rfl (N := 28) rfl 26 (.tmp 1) rfl g0 0 [.int .i64 p0, .slice A1 l1.length k1, .int .u64 p2, .int .u64 p3, .int .u64 p4, .int .u64 p5, .int .u64 p6, .int .u64 p7, .int .u64 p8, .int .u64 p9] rfl Bg0 rfl Try.underlying26 rfl (by kernel_rfl) ?_) | ((go_at_call 32); (with_reducible refine (rbestC p0 p2 p3 p4 p5 p6 p7 p8 p9 A1 k1 l1 _ (Kd.C_below hr1 HS.out) hk1).mono ?_); rintro e w3 ⟨rfl, hl⟩; replace Bg0 := Bg0.below hl; replace HS := HS.below hl; clear hl; clear kg0_0) | ((go_at_call 38); (with_reducible refine (rgainC (uBest l1) 256 (best_w hw1) (by decide) _).mono ?_); rintro e w4 ⟨rfl, hl⟩; replace Bg0 := Bg0.below hl; replace HS := HS.below hl; clear hl))
 all_goals (go_ret; exact ⟨rfl, HS.out⟩)
theorem rateRC (p0 p2 p3 p4 p5 p6 p7 p8 p9 : Int) (A1 : Option Addr) (k1 : Nat) (l1 : List S52) (hw1 : SWf l1) (Wp7 : W64 p7) (w : World) (hr1 : Kd.C k52 w A1 l1.length l1) (hk1 : l1.length ≤ k1) :
  Calls Try.prog 22 #[.agg #[.int .i64 p0, .slice A1 l1.length k1, .int .u64 p2, .int .u64 p3, .int .u64 p4, .int .u64 p5, .int .u64 p6, .int .u64 p7, .int .u64 p8, .int .u64 p9]] w fun e w' => e = .returned (.int .u64 (uRate p0 l1 p7)) ∧ Below w.heap.size w w' := by
 by_cases e1 : (uBest l1) = 0
 ·have f1 : ((uBest l1) == 0) = true := (by simpa using e1)
  refine (rateR_0 p0 p2 p3 p4 p5 p6 p7 p8 p9 A1 k1 w l1 hr1 hk1 hw1 f1).mono ?_
  rintro e w' ⟨rfl, hb⟩
  refine ⟨?_, hb⟩
  simp [uRate, e1]
 ·have f1 : ((uBest l1) == 0) = false := (by simpa using e1)
  by_cases e2 : p0 = 0
  ·have f2 : (p0 == 0) = true := (by simpa using e2)
   refine (rateR_1 p0 p2 p3 p4 p5 p6 p7 p8 p9 A1 k1 w l1 hr1 hk1 hw1 f1 f2).mono ?_
   rintro e w' ⟨rfl, hb⟩
   refine ⟨?_, hb⟩
   simp [uRate, e1, e2]
  ·have f2 : (p0 == 0) = false := (by simpa using e2)
   by_cases e3 : p0 = 1
   ·have f3 : (p0 == 1) = true := (by simpa using e3)
    refine (rateR_2 p0 p2 p3 p4 p5 p6 p7 p8 p9 A1 k1 w l1 hr1 hk1 hw1 f1 f2 f3).mono ?_
    rintro e w' ⟨rfl, hb⟩
    refine ⟨?_, hb⟩
    simp [uRate, e1, e2, e3]
   ·have f3 : (p0 == 1) = false := (by simpa using e3)
    by_cases e4 : p0 = 2
    ·have f4 : (p0 == 2) = true := (by simpa using e4)
     refine (rateR_3 p0 p2 p3 p4 p5 p6 p7 p8 p9 A1 k1 Wp7 w l1 hr1 hk1 hw1 f1 f2 f3 f4).mono ?_
     rintro e w' ⟨rfl, hb⟩
     refine ⟨?_, hb⟩
     simp [uRate, e1, e2, e3, e4]
    ·have f4 : (p0 == 2) = false := (by simpa using e4)
     refine (rateR_4 p0 p2 p3 p4 p5 p6 p7 p8 p9 A1 k1 w l1 hr1 hk1 hw1 f1 f2 f3 f4).mono ?_
     rintro e w' ⟨rfl, hb⟩
     refine ⟨?_, hb⟩
     simp [uRate, e1, e2, e3, e4]
theorem rateC (p0 p2 p3 p4 p5 p6 p7 p8 p9 : Int) (A1 : Option Addr) (k1 : Nat) (l1 : List S52) (hw1 : SWf l1) (Wp7 : W64 p7) (w : World) (hr1 : Kd.C k52 w A1 l1.length l1) (hk1 : l1.length ≤ k1) :
  Calls Try.prog 21 #[.agg #[.int .i64 p0, .slice A1 l1.length k1, .int .u64 p2, .int .u64 p3, .int .u64 p4, .int .u64 p5, .int .u64 p6, .int .u64 p7, .int .u64 p8, .int .u64 p9]] w fun e w' => e = .returned (.int .u64 (uRate p0 l1 p7)) ∧ Below w.heap.size w w' := by
 refine probe_Rate.calls p0 A1 k1 l1 p2 p3 p4 p5 p6 p7 p8 p9 (uRate p0 l1 p7) w hr1 hk1 ?_
 unfold probe_Rate.f uRate
 have hb := best_w hw1
 have hg : ∀ x, W64 x → fix_Gain.f (uBest l1) x = some (uGain (uBest l1) x) := fun x hx => gain_eq hb hx
 rw [best_eq]
 simp only [Option.bind_some]
 rw [muldiv_eq (by omega) (by omega) (by omega), hg _ (by omega), hg _ (by omega), hg _ (by omega), hg _ (by omega), hg _ (by omega), if_pos Wp7.1]
 unfold uPart
 split
 ·rfl
 ·split
  ·rfl
  ·split
   ·rfl
   ·split
    ·split
     ·rfl
     ·split <;> rfl
    ·rfl
theorem ackPC (p0 p2 p3 p4 p5 p6 p7 p8 p9 : Int) (g_0 g_1 g_2 g_3 g_4 g_5 g_6 g_7 : Int) (g_8 g_9 : Bool) (A1 : Option Addr) (k1 : Nat) (l1 : List S52) (hw1 : SWf l1) (Wp2 : W64 p2) (Wp3 : W64 p3) (Wp4 : W64 p4) (Wp5 : W64 p5) (Wp6 : W64 p6) (Wp7 : W64 p7) (Wp8 : W64 p8) (Wp9 : W64 p9) (Wg_0 : W64 g_0) (Wg_1 : W64 g_1) (Wg_2 : W64 g_2) (Wg_3 : W64 g_3) (Wg_4 : W64 g_4) (Wg_5 : W64 g_5) (Wg_6 : W64 g_6) (Wg_7 : W64 g_7) (hL1 : l1.length < 1000000) (w : World) (hr1 : Kd.C k52 w A1 l1.length l1) (hk1 : l1.length ≤ k1) :
  Calls Try.prog 11 #[.agg #[.int .i64 p0, .slice A1 l1.length k1, .int .u64 p2, .int .u64 p3, .int .u64 p4, .int .u64 p5, .int .u64 p6, .int .u64 p7, .int .u64 p8, .int .u64 p9], .agg #[.int .u64 g_0, .int .u64 g_1, .int .u64 g_2, .int .u64 g_3, .int .u64 g_4, .int .u64 g_5, .int .u64 g_6, .int .u64 g_7, .bool g_8, .bool g_9]] w fun e w' => ∃ (qA : Option Addr) (qk : Nat), e = .returned (.agg #[.int .i64 (pAck p0 l1 p2 p3 p4 p5 p6 p7 p8 p9 g_0 g_5 g_6 g_7 g_8 g_9).1, .slice qA (pAck p0 l1 p2 p3 p4 p5 p6 p7 p8 p9 g_0 g_5 g_6 g_7 g_8 g_9).2.1.length qk, .int .u64 ((pAck p0 l1 p2 p3 p4 p5 p6 p7 p8 p9 g_0 g_5 g_6 g_7 g_8 g_9).2.2.1), .int .u64 ((pAck p0 l1 p2 p3 p4 p5 p6 p7 p8 p9 g_0 g_5 g_6 g_7 g_8 g_9).2.2.2.1), .int .u64 ((pAck p0 l1 p2 p3 p4 p5 p6 p7 p8 p9 g_0 g_5 g_6 g_7 g_8 g_9).2.2.2.2.1), .int .u64 ((pAck p0 l1 p2 p3 p4 p5 p6 p7 p8 p9 g_0 g_5 g_6 g_7 g_8 g_9).2.2.2.2.2.1), .int .u64 ((pAck p0 l1 p2 p3 p4 p5 p6 p7 p8 p9 g_0 g_5 g_6 g_7 g_8 g_9).2.2.2.2.2.2.1), .int .u64 ((pAck p0 l1 p2 p3 p4 p5 p6 p7 p8 p9 g_0 g_5 g_6 g_7 g_8 g_9).2.2.2.2.2.2.2.1), .int .u64 ((pAck p0 l1 p2 p3 p4 p5 p6 p7 p8 p9 g_0 g_5 g_6 g_7 g_8 g_9).2.2.2.2.2.2.2.2.1), .int .u64 ((pAck p0 l1 p2 p3 p4 p5 p6 p7 p8 p9 g_0 g_5 g_6 g_7 g_8 g_9).2.2.2.2.2.2.2.2.2)]) ∧ (pAck p0 l1 p2 p3 p4 p5 p6 p7 p8 p9 g_0 g_5 g_6 g_7 g_8 g_9).2.1.length ≤ qk ∧ RB w' qA (pAck p0 l1 p2 p3 p4 p5 p6 p7 p8 p9 g_0 g_5 g_6 g_7 g_8 g_9).2.1 ∧ Below w.heap.size w w' := by
 have h := ack_eq (k := l1.length + 11) (st := p0) (l := l1) (mn := p2) (mat := p3) (full := p4) (still := p5) (rounds := p6) (phase := p7) (since := p8) (high := p9) (now := g_0) (x1 := g_1) (x2 := g_2) (x3 := g_3) (x4 := g_4) (took := g_5) (flight := g_6) (rate := g_7) (lim := g_8) (round := g_9) hw1 hL1 (by omega) Wp7 Wp8 Wp2 Wp3 Wp4 Wp5 Wp6 Wp9 Wg_7 Wg_5
 refine (probe_Ack.calls _ _ _ _ _ _ _ _ _ _ _ _ _ _ _ _ _ _ _ _ _ _ _ _ _ _ _ _ _ _ _ _ _ w hr1 hk1 h).mono ?_
 rintro e w' ⟨v, rfl, hR, hb⟩
 obtain ⟨qA, qk, rfl⟩ := Kd.R_slice hR
 obtain ⟨_, hk, hC⟩ := Kd.R_reads' hR
 exact ⟨qA, qk, rfl, hk, ⟨hC⟩, hb⟩
theorem same_loop {l : List S52} (hL : l.length < 1000000) : ∀ (d k i : Nat), i + d = l.length → d < k → wigwagref02_Same.l0 k l l (i : Int) = some true := by
 intro d
 induction d with
 | zero =>
  intro k i hi hk
  obtain ⟨k, rfl⟩ : ∃ m, k = m + 1 := ⟨k - 1, by omega⟩
  simp only [wigwagref02_Same.l0]
  rw [if_neg (by omega)]
 | succ d ih =>
  intro k i hi hk
  obtain ⟨k, rfl⟩ : ∃ m, k = m + 1 := ⟨k - 1, by omega⟩
  have hwr : wrap64 ((i : Int) + 1) = ((i + 1 : Nat) : Int) := by rw [wrap64_is (by omega) (by omega)]; simp
  have hi1 : i + 1 + d = l.length := by omega
  have hk1 : d < k := by omega
  simp only [wigwagref02_Same.l0]
  rw [if_pos (by omega), if_pos (by omega), if_pos (by omega), if_neg (by simp), hwr]
  exact ih k (i + 1) hi1 hk1
theorem sameL (A1 A2 : Option Addr) (k1 k2 : Nat) (l1 : List S52) (hL1 : l1.length < 1000000) (w : World) (ha : RB w A1 l1) (hk1 : l1.length ≤ k1) (hb : RB w A2 l1) (hk2 : l1.length ≤ k2) :
  Calls Try.prog 24 #[.slice A1 l1.length k1, .slice A2 l1.length k2] w fun e w' => e = .returned (.bool true) ∧ Drawn0 w w' := by
 have h := same_loop hL1 l1.length (l1.length + 1) 0 (by omega) (by omega)
 exact wigwagref02_Same.calls (l1.length + 1) A1 k1 l1 A2 k2 l1 true w ha.out hk1 hb.out hk2 (by unfold wigwagref02_Same.f; rw [if_pos rfl]; exact h)
theorem sameM_0 (p0 p2 p3 p4 p5 p6 p7 p8 p9 : Int) (A1 A2 : Option Addr) (k1 k2 : Nat)  (w : World) (l1 : List S52) (hL1 : l1.length < 1000000) (RBa : RB w A1 l1) (RBb : RB w A2 l1) (hk1 : l1.length ≤ k1) (hk2 : l1.length ≤ k2) :
  Calls Try.prog 10 #[.agg #[.int .i64 p0, .slice A1 l1.length k1, .int .u64 p2, .int .u64 p3, .int .u64 p4, .int .u64 p5, .int .u64 p6, .int .u64 p7, .int .u64 p8, .int .u64 p9], .agg #[.int .i64 p0, .slice A2 l1.length k2, .int .u64 p2, .int .u64 p3, .int .u64 p4, .int .u64 p5, .int .u64 p6, .int .u64 p7, .int .u64 p8, .int .u64 p9]] w fun e w' => e = .returned (.bool true) ∧ Below w.heap.size w w' := by
 have hu26 := Try.underlying26
 have HS := Since.refl w
 go_enter Try.func10, Try.ntmps10
 go_wp2_with (first | (refine seg_new rfl (N := 2) rfl [.int .i64 p0, .slice A1 l1.length k1, .int .u64 p2, .int .u64 p3, .int .u64 p4, .int .u64 p5, .int .u64 p6, .int .u64 p7, .int .u64 p8, .int .u64 p9] 26 ?hr ?_; (case hr => rfl); intro g0 hg w1 hn hl; have GEg0 := ge_new HS hg; clear hg; replace HS := HS.below hl; have Bg0 := hn; clear hl hn) | (refine seg_new rfl (N := 3) rfl [.int .i64 p0, .slice A2 l1.length k2, .int .u64 p2, .int .u64 p3, .int .u64 p4, .int .u64 p5, .int .u64 p6, .int .u64 p7, .int .u64 p8, .int .u64 p9] 26 ?hr ?_; (case hr => rfl); intro g1 hg w2 hn hl; have Ng1_g0 := ne_new Bg0 hg; have GEg1 := ge_new HS hg; clear hg; replace Bg0 := Bg0.below hl; replace HS := HS.below hl; have Bg1 := hn; clear hl hn; have kg0_1 := Bg0.at 1 rfl; have kg1_1 := Bg1.at 1 rfl) | ((go_at_call 24); (with_reducible refine (sameL A1 A2 k1 k2 l1 hL1 _ (RBa.below HS.out) hk1 (RBb.below HS.out) hk2).mono ?_); rintro e w3 ⟨rfl, hd⟩; have hl := hd.below; clear hd; replace Bg0 := Bg0.below hl; replace Bg1 := Bg1.below hl; replace HS := HS.below hl; clear hl; clear kg0_1 kg1_1; have kg0_0 := Bg0.at 0 rfl; have kg0_2 := Bg0.at 2 rfl; have kg0_3 := Bg0.at 3 rfl; have kg0_4 := Bg0.at 4 rfl; have kg0_5 := Bg0.at 5 rfl; have kg0_6 := Bg0.at 6 rfl; have kg0_7 := Bg0.at 7 rfl; have kg0_8 := Bg0.at 8 rfl; have kg0_9 := Bg0.at 9 rfl; have kg1_0 := Bg1.at 0 rfl; have kg1_2 := Bg1.at 2 rfl; have kg1_3 := Bg1.at 3 rfl; have kg1_4 := Bg1.at 4 rfl; have kg1_5 := Bg1.at 5 rfl; have kg1_6 := Bg1.at 6 rfl; have kg1_7 := Bg1.at 7 rfl; have kg1_8 := Bg1.at 8 rfl; have kg1_9 := Bg1.at 9 rfl))
 all_goals (go_ret; exact ⟨by first | rfl | (simp; done), HS.out⟩)
def uWin (p0 : Int) (l : List S52) (mn_ high : Int) : Int :=
 if p0 = 3 then 4800 else if uProd l mn_ 256 = 0 then 12000
 else if high ≥ 4800 then max (min (uHeld (uProd l mn_ (if p0 = 0 then 739 else 512))) high) 4800 else min (uHeld (uProd l mn_ (if p0 = 0 then 739 else 512))) high
theorem winPC (p0 p2 p3 p4 p5 p6 p7 p8 p9 : Int) (A1 : Option Addr) (k1 : Nat) (l1 : List S52) (hw1 : SWf l1) (Wp2 : W64 p2) (Wp9 : W64 p9) (w : World) (hr1 : Kd.C k52 w A1 l1.length l1) (hk1 : l1.length ≤ k1) :
  Calls Try.prog 19 #[.agg #[.int .i64 p0, .slice A1 l1.length k1, .int .u64 p2, .int .u64 p3, .int .u64 p4, .int .u64 p5, .int .u64 p6, .int .u64 p7, .int .u64 p8, .int .u64 p9]] w fun e w' => e = .returned (.int .u64 (uWin p0 l1 p2 p9)) ∧ Below w.heap.size w w' := by
 refine probe_Window.calls p0 A1 k1 l1 p2 p3 p4 p5 p6 p7 p8 p9 (uWin p0 l1 p2 p9) w hr1 hk1 ?_
 unfold probe_Window.f uWin
 rw [prod_eq hw1 Wp2 (by omega), prod_eq hw1 Wp2 (by omega), prod_eq hw1 Wp2 (by omega)]
 simp only [Option.bind_some, held_eq]
 have hmn : ∀ x : Int, mn x p9 = min x p9 := fun x => by unfold mn; split <;> omega
 have hmx : ∀ x : Int, mx x 4800 = max x 4800 := fun x => by unfold mx; split <;> omega
 simp only [hmn, hmx]
 by_cases h3 : p0 = 3
 ·rw [if_pos h3, if_pos h3]
 rw [if_neg h3, if_neg h3]
 by_cases hz : uProd l1 p2 256 = 0
 ·rw [if_pos hz, if_pos hz]
 rw [if_neg hz, if_neg hz]
 by_cases h0 : p0 = 0
 ·rw [if_pos h0, if_pos h0]
  split <;> rfl
 ·rw [if_neg h0, if_neg h0]
  split <;> rfl
theorem winR_0 (p0 p2 p3 p4 p5 p6 p7 p8 p9 : Int) (A1 : Option Addr) (k1 : Nat)  (w : World) (l1 : List S52) (hr1 : Kd.C k52 w A1 l1.length l1) (hk1 : l1.length ≤ k1) (hw1 : SWf l1) (h0 : (p0 == 3) = true) :
  Calls Try.prog 20 #[.agg #[.int .i64 p0, .slice A1 l1.length k1, .int .u64 p2, .int .u64 p3, .int .u64 p4, .int .u64 p5, .int .u64 p6, .int .u64 p7, .int .u64 p8, .int .u64 p9]] w fun e w' => e = .returned (.int .u64 4800) ∧ Below w.heap.size w w' := by
 have hu26 := Try.underlying26
 have HS := Since.refl w
 go_enter Try.func20, Try.ntmps20
 go_wp2_with (first | (refine seg_new rfl (N := 1) rfl [.int .i64 p0, .slice A1 l1.length k1, .int .u64 p2, .int .u64 p3, .int .u64 p4, .int .u64 p5, .int .u64 p6, .int .u64 p7, .int .u64 p8, .int .u64 p9] 26 ?hr ?_; (case hr => rfl); intro g0 hg w1 hn hl; have GEg0 := ge_new HS hg; clear hg; replace HS := HS.below hl; have Bg0 := hn; clear hl hn; have kg0_0 := Bg0.at 0 rfl))
 all_goals (go_ret; exact ⟨rfl, HS.out⟩)
theorem winR_1 (p0 p2 p3 p4 p5 p6 p7 p8 p9 : Int) (A1 : Option Addr) (k1 : Nat) (Wp2 : W64 p2) (w : World) (l1 : List S52) (hr1 : Kd.C k52 w A1 l1.length l1) (hk1 : l1.length ≤ k1) (hw1 : SWf l1) (h0 : (p0 == 3) = false) (h1 : ((uProd l1 p2 256) == 0) = true) :
  Calls Try.prog 20 #[.agg #[.int .i64 p0, .slice A1 l1.length k1, .int .u64 p2, .int .u64 p3, .int .u64 p4, .int .u64 p5, .int .u64 p6, .int .u64 p7, .int .u64 p8, .int .u64 p9]] w fun e w' => e = .returned (.int .u64 12000) ∧ Below w.heap.size w w' := by
 have hu26 := Try.underlying26
 have HS := Since.refl w
 go_enter Try.func20, Try.ntmps20
 go_wp2_with (first | (refine seg_new rfl (N := 1) rfl [.int .i64 p0, .slice A1 l1.length k1, .int .u64 p2, .int .u64 p3, .int .u64 p4, .int .u64 p5, .int .u64 p6, .int .u64 p7, .int .u64 p8, .int .u64 p9] 26 ?hr ?_; (case hr => rfl); intro g0 hg w1 hn hl; have GEg0 := ge_new HS hg; clear hg; replace HS := HS.below hl; have Bg0 := hn; clear hl hn; have kg0_0 := Bg0.at 0 rfl) | (refine seg_load rfl (N := 8) rfl 26 (.tmp 1) rfl g0 0 [.int .i64 p0, .slice A1 l1.length k1, .int .u64 p2, .int .u64 p3, .int .u64 p4, .int .u64 p5, .int .u64 p6, .int .u64 p7, .int .u64 p8, .int .u64 p9] rfl Bg0 rfl Try.underlying26 rfl (by kernel_rfl) ?_) | ((go_at_call 18); (with_reducible refine (rprodC p0 p2 p3 p4 p5 p6 p7 p8 p9 256 A1 k1 l1 hw1 Wp2 (by decide) _ (Kd.C_below hr1 HS.out) hk1).mono ?_); rintro e w2 ⟨rfl, hl⟩; replace Bg0 := Bg0.below hl; replace HS := HS.below hl; clear hl; clear kg0_0))
 all_goals (go_ret; exact ⟨rfl, HS.out⟩)
theorem winR_2 (p0 p2 p3 p4 p5 p6 p7 p8 p9 : Int) (A1 : Option Addr) (k1 : Nat) (Wp2 : W64 p2) (w : World) (l1 : List S52) (hr1 : Kd.C k52 w A1 l1.length l1) (hk1 : l1.length ≤ k1) (hw1 : SWf l1) (h0 : (p0 == 3) = false) (h1 : ((uProd l1 p2 256) == 0) = false) (h2 : (p0 == 0) = true) (h3 : (decide (p9 < uHeld (uProd l1 p2 739))) = true) (h4 : (decide (p9 < 4800)) = true) :
  Calls Try.prog 20 #[.agg #[.int .i64 p0, .slice A1 l1.length k1, .int .u64 p2, .int .u64 p3, .int .u64 p4, .int .u64 p5, .int .u64 p6, .int .u64 p7, .int .u64 p8, .int .u64 p9]] w fun e w' => e = .returned (.int .u64 p9) ∧ Below w.heap.size w w' := by
 have hu26 := Try.underlying26
 have d0 := (le_of_lt' h4)
 have HS := Since.refl w
 go_enter Try.func20, Try.ntmps20
 go_wp2_with (first | (refine seg_new rfl (N := 1) rfl [.int .i64 p0, .slice A1 l1.length k1, .int .u64 p2, .int .u64 p3, .int .u64 p4, .int .u64 p5, .int .u64 p6, .int .u64 p7, .int .u64 p8, .int .u64 p9] 26 ?hr ?_; (case hr => rfl); intro g0 hg w1 hn hl; have GEg0 := ge_new HS hg; clear hg; replace HS := HS.below hl; have Bg0 := hn; clear hl hn; have kg0_0 := Bg0.at 0 rfl) | (refine seg_load rfl (N := 8) rfl 26 (.tmp 1) rfl g0 0 [.int .i64 p0, .slice A1 l1.length k1, .int .u64 p2, .int .u64 p3, .int .u64 p4, .int .u64 p5, .int .u64 p6, .int .u64 p7, .int .u64 p8, .int .u64 p9] rfl Bg0 rfl Try.underlying26 rfl (by kernel_rfl) ?_) | ((go_at_call 18); (with_reducible refine (rprodC p0 p2 p3 p4 p5 p6 p7 p8 p9 256 A1 k1 l1 hw1 Wp2 (by decide) _ (Kd.C_below hr1 HS.out) hk1).mono ?_); rintro e w2 ⟨rfl, hl⟩; replace Bg0 := Bg0.below hl; replace HS := HS.below hl; clear hl; replace kg0_0 := Bg0.at 0 rfl) | (refine seg_load rfl (N := 14) rfl 26 (.tmp 1) rfl g0 0 [.int .i64 p0, .slice A1 l1.length k1, .int .u64 p2, .int .u64 p3, .int .u64 p4, .int .u64 p5, .int .u64 p6, .int .u64 p7, .int .u64 p8, .int .u64 p9] rfl Bg0 rfl Try.underlying26 rfl (by kernel_rfl) ?_) | ((go_at_call 18); (with_reducible refine (rprodC p0 p2 p3 p4 p5 p6 p7 p8 p9 739 A1 k1 l1 hw1 Wp2 (by decide) _ (Kd.C_below hr1 HS.out) hk1).mono ?_); rintro e w3 ⟨rfl, hl⟩; replace Bg0 := Bg0.below hl; replace HS := HS.below hl; clear hl; clear kg0_0) | ((go_at_call 31); (with_reducible refine (wigwagref10_HeldT.C (uProd l1 p2 739) _).mono ?_); rintro e w4 ⟨rfl, hd⟩; have hl := hd.below; clear hd; replace Bg0 := Bg0.below hl; replace HS := HS.below hl; clear hl; have kg0_9 := Bg0.at 9 rfl))
 all_goals (go_ret; exact ⟨rfl, HS.out⟩)
theorem winR_3 (p0 p2 p3 p4 p5 p6 p7 p8 p9 : Int) (A1 : Option Addr) (k1 : Nat) (Wp2 : W64 p2) (w : World) (l1 : List S52) (hr1 : Kd.C k52 w A1 l1.length l1) (hk1 : l1.length ≤ k1) (hw1 : SWf l1) (h0 : (p0 == 3) = false) (h1 : ((uProd l1 p2 256) == 0) = false) (h2 : (p0 == 0) = true) (h3 : (decide (p9 < uHeld (uProd l1 p2 739))) = true) (h4 : (decide (p9 < 4800)) = false) :
  Calls Try.prog 20 #[.agg #[.int .i64 p0, .slice A1 l1.length k1, .int .u64 p2, .int .u64 p3, .int .u64 p4, .int .u64 p5, .int .u64 p6, .int .u64 p7, .int .u64 p8, .int .u64 p9]] w fun e w' => e = .returned (.int .u64 p9) ∧ Below w.heap.size w w' := by
 have hu26 := Try.underlying26
 have HS := Since.refl w
 go_enter Try.func20, Try.ntmps20
 go_wp2_with (first | (refine seg_new rfl (N := 1) rfl [.int .i64 p0, .slice A1 l1.length k1, .int .u64 p2, .int .u64 p3, .int .u64 p4, .int .u64 p5, .int .u64 p6, .int .u64 p7, .int .u64 p8, .int .u64 p9] 26 ?hr ?_; (case hr => rfl); intro g0 hg w1 hn hl; have GEg0 := ge_new HS hg; clear hg; replace HS := HS.below hl; have Bg0 := hn; clear hl hn; have kg0_0 := Bg0.at 0 rfl) | (refine seg_load rfl (N := 8) rfl 26 (.tmp 1) rfl g0 0 [.int .i64 p0, .slice A1 l1.length k1, .int .u64 p2, .int .u64 p3, .int .u64 p4, .int .u64 p5, .int .u64 p6, .int .u64 p7, .int .u64 p8, .int .u64 p9] rfl Bg0 rfl Try.underlying26 rfl (by kernel_rfl) ?_) | ((go_at_call 18); (with_reducible refine (rprodC p0 p2 p3 p4 p5 p6 p7 p8 p9 256 A1 k1 l1 hw1 Wp2 (by decide) _ (Kd.C_below hr1 HS.out) hk1).mono ?_); rintro e w2 ⟨rfl, hl⟩; replace Bg0 := Bg0.below hl; replace HS := HS.below hl; clear hl; replace kg0_0 := Bg0.at 0 rfl) | (refine seg_load rfl (N := 14) rfl 26 (.tmp 1) rfl g0 0 [.int .i64 p0, .slice A1 l1.length k1, .int .u64 p2, .int .u64 p3, .int .u64 p4, .int .u64 p5, .int .u64 p6, .int .u64 p7, .int .u64 p8, .int .u64 p9] rfl Bg0 rfl Try.underlying26 rfl (by kernel_rfl) ?_) | ((go_at_call 18); (with_reducible refine (rprodC p0 p2 p3 p4 p5 p6 p7 p8 p9 739 A1 k1 l1 hw1 Wp2 (by decide) _ (Kd.C_below hr1 HS.out) hk1).mono ?_); rintro e w3 ⟨rfl, hl⟩; replace Bg0 := Bg0.below hl; replace HS := HS.below hl; clear hl; clear kg0_0) | ((go_at_call 31); (with_reducible refine (wigwagref10_HeldT.C (uProd l1 p2 739) _).mono ?_); rintro e w4 ⟨rfl, hd⟩; have hl := hd.below; clear hd; replace Bg0 := Bg0.below hl; replace HS := HS.below hl; clear hl; have kg0_9 := Bg0.at 9 rfl))
 all_goals (go_ret; exact ⟨rfl, HS.out⟩)
theorem winR_4 (p0 p2 p3 p4 p5 p6 p7 p8 p9 : Int) (A1 : Option Addr) (k1 : Nat) (Wp2 : W64 p2) (w : World) (l1 : List S52) (hr1 : Kd.C k52 w A1 l1.length l1) (hk1 : l1.length ≤ k1) (hw1 : SWf l1) (h0 : (p0 == 3) = false) (h1 : ((uProd l1 p2 256) == 0) = false) (h2 : (p0 == 0) = true) (h3 : (decide (p9 < uHeld (uProd l1 p2 739))) = false) (h4 : (decide (uHeld (uProd l1 p2 739) < 4800)) = true) (h5 : (decide (4800 ≤ p9)) = true) :
  Calls Try.prog 20 #[.agg #[.int .i64 p0, .slice A1 l1.length k1, .int .u64 p2, .int .u64 p3, .int .u64 p4, .int .u64 p5, .int .u64 p6, .int .u64 p7, .int .u64 p8, .int .u64 p9]] w fun e w' => e = .returned (.int .u64 4800) ∧ Below w.heap.size w w' := by
 have hu26 := Try.underlying26
 have HS := Since.refl w
 go_enter Try.func20, Try.ntmps20
 go_wp2_with (first | (refine seg_new rfl (N := 1) rfl [.int .i64 p0, .slice A1 l1.length k1, .int .u64 p2, .int .u64 p3, .int .u64 p4, .int .u64 p5, .int .u64 p6, .int .u64 p7, .int .u64 p8, .int .u64 p9] 26 ?hr ?_; (case hr => rfl); intro g0 hg w1 hn hl; have GEg0 := ge_new HS hg; clear hg; replace HS := HS.below hl; have Bg0 := hn; clear hl hn; have kg0_0 := Bg0.at 0 rfl) | (refine seg_load rfl (N := 8) rfl 26 (.tmp 1) rfl g0 0 [.int .i64 p0, .slice A1 l1.length k1, .int .u64 p2, .int .u64 p3, .int .u64 p4, .int .u64 p5, .int .u64 p6, .int .u64 p7, .int .u64 p8, .int .u64 p9] rfl Bg0 rfl Try.underlying26 rfl (by kernel_rfl) ?_) | ((go_at_call 18); (with_reducible refine (rprodC p0 p2 p3 p4 p5 p6 p7 p8 p9 256 A1 k1 l1 hw1 Wp2 (by decide) _ (Kd.C_below hr1 HS.out) hk1).mono ?_); rintro e w2 ⟨rfl, hl⟩; replace Bg0 := Bg0.below hl; replace HS := HS.below hl; clear hl; replace kg0_0 := Bg0.at 0 rfl) | (refine seg_load rfl (N := 14) rfl 26 (.tmp 1) rfl g0 0 [.int .i64 p0, .slice A1 l1.length k1, .int .u64 p2, .int .u64 p3, .int .u64 p4, .int .u64 p5, .int .u64 p6, .int .u64 p7, .int .u64 p8, .int .u64 p9] rfl Bg0 rfl Try.underlying26 rfl (by kernel_rfl) ?_) | ((go_at_call 18); (with_reducible refine (rprodC p0 p2 p3 p4 p5 p6 p7 p8 p9 739 A1 k1 l1 hw1 Wp2 (by decide) _ (Kd.C_below hr1 HS.out) hk1).mono ?_); rintro e w3 ⟨rfl, hl⟩; replace Bg0 := Bg0.below hl; replace HS := HS.below hl; clear hl; clear kg0_0) | ((go_at_call 31); (with_reducible refine (wigwagref10_HeldT.C (uProd l1 p2 739) _).mono ?_); rintro e w4 ⟨rfl, hd⟩; have hl := hd.below; clear hd; replace Bg0 := Bg0.below hl; replace HS := HS.below hl; clear hl; have kg0_9 := Bg0.at 9 rfl))
 all_goals (go_ret; exact ⟨rfl, HS.out⟩)
theorem winR_5 (p0 p2 p3 p4 p5 p6 p7 p8 p9 : Int) (A1 : Option Addr) (k1 : Nat) (Wp2 : W64 p2) (w : World) (l1 : List S52) (hr1 : Kd.C k52 w A1 l1.length l1) (hk1 : l1.length ≤ k1) (hw1 : SWf l1) (h0 : (p0 == 3) = false) (h1 : ((uProd l1 p2 256) == 0) = false) (h2 : (p0 == 0) = true) (h3 : (decide (p9 < uHeld (uProd l1 p2 739))) = false) (h4 : (decide (uHeld (uProd l1 p2 739) < 4800)) = true) (h5 : (decide (4800 ≤ p9)) = false) :
  Calls Try.prog 20 #[.agg #[.int .i64 p0, .slice A1 l1.length k1, .int .u64 p2, .int .u64 p3, .int .u64 p4, .int .u64 p5, .int .u64 p6, .int .u64 p7, .int .u64 p8, .int .u64 p9]] w fun e w' => e = .returned (.int .u64 (uHeld (uProd l1 p2 739))) ∧ Below w.heap.size w w' := by
 have hu26 := Try.underlying26
 have HS := Since.refl w
 go_enter Try.func20, Try.ntmps20
 go_wp2_with (first | (refine seg_new rfl (N := 1) rfl [.int .i64 p0, .slice A1 l1.length k1, .int .u64 p2, .int .u64 p3, .int .u64 p4, .int .u64 p5, .int .u64 p6, .int .u64 p7, .int .u64 p8, .int .u64 p9] 26 ?hr ?_; (case hr => rfl); intro g0 hg w1 hn hl; have GEg0 := ge_new HS hg; clear hg; replace HS := HS.below hl; have Bg0 := hn; clear hl hn; have kg0_0 := Bg0.at 0 rfl) | (refine seg_load rfl (N := 8) rfl 26 (.tmp 1) rfl g0 0 [.int .i64 p0, .slice A1 l1.length k1, .int .u64 p2, .int .u64 p3, .int .u64 p4, .int .u64 p5, .int .u64 p6, .int .u64 p7, .int .u64 p8, .int .u64 p9] rfl Bg0 rfl Try.underlying26 rfl (by kernel_rfl) ?_) | ((go_at_call 18); (with_reducible refine (rprodC p0 p2 p3 p4 p5 p6 p7 p8 p9 256 A1 k1 l1 hw1 Wp2 (by decide) _ (Kd.C_below hr1 HS.out) hk1).mono ?_); rintro e w2 ⟨rfl, hl⟩; replace Bg0 := Bg0.below hl; replace HS := HS.below hl; clear hl; replace kg0_0 := Bg0.at 0 rfl) | (refine seg_load rfl (N := 14) rfl 26 (.tmp 1) rfl g0 0 [.int .i64 p0, .slice A1 l1.length k1, .int .u64 p2, .int .u64 p3, .int .u64 p4, .int .u64 p5, .int .u64 p6, .int .u64 p7, .int .u64 p8, .int .u64 p9] rfl Bg0 rfl Try.underlying26 rfl (by kernel_rfl) ?_) | ((go_at_call 18); (with_reducible refine (rprodC p0 p2 p3 p4 p5 p6 p7 p8 p9 739 A1 k1 l1 hw1 Wp2 (by decide) _ (Kd.C_below hr1 HS.out) hk1).mono ?_); rintro e w3 ⟨rfl, hl⟩; replace Bg0 := Bg0.below hl; replace HS := HS.below hl; clear hl; clear kg0_0) | ((go_at_call 31); (with_reducible refine (wigwagref10_HeldT.C (uProd l1 p2 739) _).mono ?_); rintro e w4 ⟨rfl, hd⟩; have hl := hd.below; clear hd; replace Bg0 := Bg0.below hl; replace HS := HS.below hl; clear hl; have kg0_9 := Bg0.at 9 rfl))
 all_goals (go_ret; exact ⟨rfl, HS.out⟩)
theorem winR_6 (p0 p2 p3 p4 p5 p6 p7 p8 p9 : Int) (A1 : Option Addr) (k1 : Nat) (Wp2 : W64 p2) (w : World) (l1 : List S52) (hr1 : Kd.C k52 w A1 l1.length l1) (hk1 : l1.length ≤ k1) (hw1 : SWf l1) (h0 : (p0 == 3) = false) (h1 : ((uProd l1 p2 256) == 0) = false) (h2 : (p0 == 0) = true) (h3 : (decide (p9 < uHeld (uProd l1 p2 739))) = false) (h4 : (decide (uHeld (uProd l1 p2 739) < 4800)) = false) :
  Calls Try.prog 20 #[.agg #[.int .i64 p0, .slice A1 l1.length k1, .int .u64 p2, .int .u64 p3, .int .u64 p4, .int .u64 p5, .int .u64 p6, .int .u64 p7, .int .u64 p8, .int .u64 p9]] w fun e w' => e = .returned (.int .u64 (uHeld (uProd l1 p2 739))) ∧ Below w.heap.size w w' := by
 have hu26 := Try.underlying26
 have HS := Since.refl w
 go_enter Try.func20, Try.ntmps20
 go_wp2_with (first | (refine seg_new rfl (N := 1) rfl [.int .i64 p0, .slice A1 l1.length k1, .int .u64 p2, .int .u64 p3, .int .u64 p4, .int .u64 p5, .int .u64 p6, .int .u64 p7, .int .u64 p8, .int .u64 p9] 26 ?hr ?_; (case hr => rfl); intro g0 hg w1 hn hl; have GEg0 := ge_new HS hg; clear hg; replace HS := HS.below hl; have Bg0 := hn; clear hl hn; have kg0_0 := Bg0.at 0 rfl) | (refine seg_load rfl (N := 8) rfl 26 (.tmp 1) rfl g0 0 [.int .i64 p0, .slice A1 l1.length k1, .int .u64 p2, .int .u64 p3, .int .u64 p4, .int .u64 p5, .int .u64 p6, .int .u64 p7, .int .u64 p8, .int .u64 p9] rfl Bg0 rfl Try.underlying26 rfl (by kernel_rfl) ?_) | ((go_at_call 18); (with_reducible refine (rprodC p0 p2 p3 p4 p5 p6 p7 p8 p9 256 A1 k1 l1 hw1 Wp2 (by decide) _ (Kd.C_below hr1 HS.out) hk1).mono ?_); rintro e w2 ⟨rfl, hl⟩; replace Bg0 := Bg0.below hl; replace HS := HS.below hl; clear hl; replace kg0_0 := Bg0.at 0 rfl) | (refine seg_load rfl (N := 14) rfl 26 (.tmp 1) rfl g0 0 [.int .i64 p0, .slice A1 l1.length k1, .int .u64 p2, .int .u64 p3, .int .u64 p4, .int .u64 p5, .int .u64 p6, .int .u64 p7, .int .u64 p8, .int .u64 p9] rfl Bg0 rfl Try.underlying26 rfl (by kernel_rfl) ?_) | ((go_at_call 18); (with_reducible refine (rprodC p0 p2 p3 p4 p5 p6 p7 p8 p9 739 A1 k1 l1 hw1 Wp2 (by decide) _ (Kd.C_below hr1 HS.out) hk1).mono ?_); rintro e w3 ⟨rfl, hl⟩; replace Bg0 := Bg0.below hl; replace HS := HS.below hl; clear hl; clear kg0_0) | ((go_at_call 31); (with_reducible refine (wigwagref10_HeldT.C (uProd l1 p2 739) _).mono ?_); rintro e w4 ⟨rfl, hd⟩; have hl := hd.below; clear hd; replace Bg0 := Bg0.below hl; replace HS := HS.below hl; clear hl; have kg0_9 := Bg0.at 9 rfl))
 all_goals (go_ret; exact ⟨rfl, HS.out⟩)
theorem winR_7 (p0 p2 p3 p4 p5 p6 p7 p8 p9 : Int) (A1 : Option Addr) (k1 : Nat) (Wp2 : W64 p2) (w : World) (l1 : List S52) (hr1 : Kd.C k52 w A1 l1.length l1) (hk1 : l1.length ≤ k1) (hw1 : SWf l1) (h0 : (p0 == 3) = false) (h1 : ((uProd l1 p2 256) == 0) = false) (h2 : (p0 == 0) = false) (h3 : (decide (p9 < uHeld (uProd l1 p2 512))) = true) (h4 : (decide (p9 < 4800)) = true) :
  Calls Try.prog 20 #[.agg #[.int .i64 p0, .slice A1 l1.length k1, .int .u64 p2, .int .u64 p3, .int .u64 p4, .int .u64 p5, .int .u64 p6, .int .u64 p7, .int .u64 p8, .int .u64 p9]] w fun e w' => e = .returned (.int .u64 p9) ∧ Below w.heap.size w w' := by
 have hu26 := Try.underlying26
 have d0 := (le_of_lt' h4)
 have HS := Since.refl w
 go_enter Try.func20, Try.ntmps20
 go_wp2_with (first | (refine seg_new rfl (N := 1) rfl [.int .i64 p0, .slice A1 l1.length k1, .int .u64 p2, .int .u64 p3, .int .u64 p4, .int .u64 p5, .int .u64 p6, .int .u64 p7, .int .u64 p8, .int .u64 p9] 26 ?hr ?_; (case hr => rfl); intro g0 hg w1 hn hl; have GEg0 := ge_new HS hg; clear hg; replace HS := HS.below hl; have Bg0 := hn; clear hl hn; have kg0_0 := Bg0.at 0 rfl) | (refine seg_load rfl (N := 8) rfl 26 (.tmp 1) rfl g0 0 [.int .i64 p0, .slice A1 l1.length k1, .int .u64 p2, .int .u64 p3, .int .u64 p4, .int .u64 p5, .int .u64 p6, .int .u64 p7, .int .u64 p8, .int .u64 p9] rfl Bg0 rfl Try.underlying26 rfl (by kernel_rfl) ?_) | ((go_at_call 18); (with_reducible refine (rprodC p0 p2 p3 p4 p5 p6 p7 p8 p9 256 A1 k1 l1 hw1 Wp2 (by decide) _ (Kd.C_below hr1 HS.out) hk1).mono ?_); rintro e w2 ⟨rfl, hl⟩; replace Bg0 := Bg0.below hl; replace HS := HS.below hl; clear hl; replace kg0_0 := Bg0.at 0 rfl) | (refine seg_load rfl (N := 14) rfl 26 (.tmp 1) rfl g0 0 [.int .i64 p0, .slice A1 l1.length k1, .int .u64 p2, .int .u64 p3, .int .u64 p4, .int .u64 p5, .int .u64 p6, .int .u64 p7, .int .u64 p8, .int .u64 p9] rfl Bg0 rfl Try.underlying26 rfl (by kernel_rfl) ?_) | ((go_at_call 18); (with_reducible refine (rprodC p0 p2 p3 p4 p5 p6 p7 p8 p9 512 A1 k1 l1 hw1 Wp2 (by decide) _ (Kd.C_below hr1 HS.out) hk1).mono ?_); rintro e w3 ⟨rfl, hl⟩; replace Bg0 := Bg0.below hl; replace HS := HS.below hl; clear hl; clear kg0_0) | ((go_at_call 31); (with_reducible refine (wigwagref10_HeldT.C (uProd l1 p2 512) _).mono ?_); rintro e w4 ⟨rfl, hd⟩; have hl := hd.below; clear hd; replace Bg0 := Bg0.below hl; replace HS := HS.below hl; clear hl; have kg0_9 := Bg0.at 9 rfl))
 all_goals (go_ret; exact ⟨rfl, HS.out⟩)
theorem winR_8 (p0 p2 p3 p4 p5 p6 p7 p8 p9 : Int) (A1 : Option Addr) (k1 : Nat) (Wp2 : W64 p2) (w : World) (l1 : List S52) (hr1 : Kd.C k52 w A1 l1.length l1) (hk1 : l1.length ≤ k1) (hw1 : SWf l1) (h0 : (p0 == 3) = false) (h1 : ((uProd l1 p2 256) == 0) = false) (h2 : (p0 == 0) = false) (h3 : (decide (p9 < uHeld (uProd l1 p2 512))) = true) (h4 : (decide (p9 < 4800)) = false) :
  Calls Try.prog 20 #[.agg #[.int .i64 p0, .slice A1 l1.length k1, .int .u64 p2, .int .u64 p3, .int .u64 p4, .int .u64 p5, .int .u64 p6, .int .u64 p7, .int .u64 p8, .int .u64 p9]] w fun e w' => e = .returned (.int .u64 p9) ∧ Below w.heap.size w w' := by
 have hu26 := Try.underlying26
 have HS := Since.refl w
 go_enter Try.func20, Try.ntmps20
 go_wp2_with (first | (refine seg_new rfl (N := 1) rfl [.int .i64 p0, .slice A1 l1.length k1, .int .u64 p2, .int .u64 p3, .int .u64 p4, .int .u64 p5, .int .u64 p6, .int .u64 p7, .int .u64 p8, .int .u64 p9] 26 ?hr ?_; (case hr => rfl); intro g0 hg w1 hn hl; have GEg0 := ge_new HS hg; clear hg; replace HS := HS.below hl; have Bg0 := hn; clear hl hn; have kg0_0 := Bg0.at 0 rfl) | (refine seg_load rfl (N := 8) rfl 26 (.tmp 1) rfl g0 0 [.int .i64 p0, .slice A1 l1.length k1, .int .u64 p2, .int .u64 p3, .int .u64 p4, .int .u64 p5, .int .u64 p6, .int .u64 p7, .int .u64 p8, .int .u64 p9] rfl Bg0 rfl Try.underlying26 rfl (by kernel_rfl) ?_) | ((go_at_call 18); (with_reducible refine (rprodC p0 p2 p3 p4 p5 p6 p7 p8 p9 256 A1 k1 l1 hw1 Wp2 (by decide) _ (Kd.C_below hr1 HS.out) hk1).mono ?_); rintro e w2 ⟨rfl, hl⟩; replace Bg0 := Bg0.below hl; replace HS := HS.below hl; clear hl; replace kg0_0 := Bg0.at 0 rfl) | (refine seg_load rfl (N := 14) rfl 26 (.tmp 1) rfl g0 0 [.int .i64 p0, .slice A1 l1.length k1, .int .u64 p2, .int .u64 p3, .int .u64 p4, .int .u64 p5, .int .u64 p6, .int .u64 p7, .int .u64 p8, .int .u64 p9] rfl Bg0 rfl Try.underlying26 rfl (by kernel_rfl) ?_) | ((go_at_call 18); (with_reducible refine (rprodC p0 p2 p3 p4 p5 p6 p7 p8 p9 512 A1 k1 l1 hw1 Wp2 (by decide) _ (Kd.C_below hr1 HS.out) hk1).mono ?_); rintro e w3 ⟨rfl, hl⟩; replace Bg0 := Bg0.below hl; replace HS := HS.below hl; clear hl; clear kg0_0) | ((go_at_call 31); (with_reducible refine (wigwagref10_HeldT.C (uProd l1 p2 512) _).mono ?_); rintro e w4 ⟨rfl, hd⟩; have hl := hd.below; clear hd; replace Bg0 := Bg0.below hl; replace HS := HS.below hl; clear hl; have kg0_9 := Bg0.at 9 rfl))
 all_goals (go_ret; exact ⟨rfl, HS.out⟩)
theorem winR_9 (p0 p2 p3 p4 p5 p6 p7 p8 p9 : Int) (A1 : Option Addr) (k1 : Nat) (Wp2 : W64 p2) (w : World) (l1 : List S52) (hr1 : Kd.C k52 w A1 l1.length l1) (hk1 : l1.length ≤ k1) (hw1 : SWf l1) (h0 : (p0 == 3) = false) (h1 : ((uProd l1 p2 256) == 0) = false) (h2 : (p0 == 0) = false) (h3 : (decide (p9 < uHeld (uProd l1 p2 512))) = false) (h4 : (decide (uHeld (uProd l1 p2 512) < 4800)) = true) (h5 : (decide (4800 ≤ p9)) = true) :
  Calls Try.prog 20 #[.agg #[.int .i64 p0, .slice A1 l1.length k1, .int .u64 p2, .int .u64 p3, .int .u64 p4, .int .u64 p5, .int .u64 p6, .int .u64 p7, .int .u64 p8, .int .u64 p9]] w fun e w' => e = .returned (.int .u64 4800) ∧ Below w.heap.size w w' := by
 have hu26 := Try.underlying26
 have HS := Since.refl w
 go_enter Try.func20, Try.ntmps20
 go_wp2_with (first | (refine seg_new rfl (N := 1) rfl [.int .i64 p0, .slice A1 l1.length k1, .int .u64 p2, .int .u64 p3, .int .u64 p4, .int .u64 p5, .int .u64 p6, .int .u64 p7, .int .u64 p8, .int .u64 p9] 26 ?hr ?_; (case hr => rfl); intro g0 hg w1 hn hl; have GEg0 := ge_new HS hg; clear hg; replace HS := HS.below hl; have Bg0 := hn; clear hl hn; have kg0_0 := Bg0.at 0 rfl) | (refine seg_load rfl (N := 8) rfl 26 (.tmp 1) rfl g0 0 [.int .i64 p0, .slice A1 l1.length k1, .int .u64 p2, .int .u64 p3, .int .u64 p4, .int .u64 p5, .int .u64 p6, .int .u64 p7, .int .u64 p8, .int .u64 p9] rfl Bg0 rfl Try.underlying26 rfl (by kernel_rfl) ?_) | ((go_at_call 18); (with_reducible refine (rprodC p0 p2 p3 p4 p5 p6 p7 p8 p9 256 A1 k1 l1 hw1 Wp2 (by decide) _ (Kd.C_below hr1 HS.out) hk1).mono ?_); rintro e w2 ⟨rfl, hl⟩; replace Bg0 := Bg0.below hl; replace HS := HS.below hl; clear hl; replace kg0_0 := Bg0.at 0 rfl) | (refine seg_load rfl (N := 14) rfl 26 (.tmp 1) rfl g0 0 [.int .i64 p0, .slice A1 l1.length k1, .int .u64 p2, .int .u64 p3, .int .u64 p4, .int .u64 p5, .int .u64 p6, .int .u64 p7, .int .u64 p8, .int .u64 p9] rfl Bg0 rfl Try.underlying26 rfl (by kernel_rfl) ?_) | ((go_at_call 18); (with_reducible refine (rprodC p0 p2 p3 p4 p5 p6 p7 p8 p9 512 A1 k1 l1 hw1 Wp2 (by decide) _ (Kd.C_below hr1 HS.out) hk1).mono ?_); rintro e w3 ⟨rfl, hl⟩; replace Bg0 := Bg0.below hl; replace HS := HS.below hl; clear hl; clear kg0_0) | ((go_at_call 31); (with_reducible refine (wigwagref10_HeldT.C (uProd l1 p2 512) _).mono ?_); rintro e w4 ⟨rfl, hd⟩; have hl := hd.below; clear hd; replace Bg0 := Bg0.below hl; replace HS := HS.below hl; clear hl; have kg0_9 := Bg0.at 9 rfl))
 all_goals (go_ret; exact ⟨rfl, HS.out⟩)
theorem winR_10 (p0 p2 p3 p4 p5 p6 p7 p8 p9 : Int) (A1 : Option Addr) (k1 : Nat) (Wp2 : W64 p2) (w : World) (l1 : List S52) (hr1 : Kd.C k52 w A1 l1.length l1) (hk1 : l1.length ≤ k1) (hw1 : SWf l1) (h0 : (p0 == 3) = false) (h1 : ((uProd l1 p2 256) == 0) = false) (h2 : (p0 == 0) = false) (h3 : (decide (p9 < uHeld (uProd l1 p2 512))) = false) (h4 : (decide (uHeld (uProd l1 p2 512) < 4800)) = true) (h5 : (decide (4800 ≤ p9)) = false) :
  Calls Try.prog 20 #[.agg #[.int .i64 p0, .slice A1 l1.length k1, .int .u64 p2, .int .u64 p3, .int .u64 p4, .int .u64 p5, .int .u64 p6, .int .u64 p7, .int .u64 p8, .int .u64 p9]] w fun e w' => e = .returned (.int .u64 (uHeld (uProd l1 p2 512))) ∧ Below w.heap.size w w' := by
 have hu26 := Try.underlying26
 have HS := Since.refl w
 go_enter Try.func20, Try.ntmps20
 go_wp2_with (first | (refine seg_new rfl (N := 1) rfl [.int .i64 p0, .slice A1 l1.length k1, .int .u64 p2, .int .u64 p3, .int .u64 p4, .int .u64 p5, .int .u64 p6, .int .u64 p7, .int .u64 p8, .int .u64 p9] 26 ?hr ?_; (case hr => rfl); intro g0 hg w1 hn hl; have GEg0 := ge_new HS hg; clear hg; replace HS := HS.below hl; have Bg0 := hn; clear hl hn; have kg0_0 := Bg0.at 0 rfl) | (refine seg_load rfl (N := 8) rfl 26 (.tmp 1) rfl g0 0 [.int .i64 p0, .slice A1 l1.length k1, .int .u64 p2, .int .u64 p3, .int .u64 p4, .int .u64 p5, .int .u64 p6, .int .u64 p7, .int .u64 p8, .int .u64 p9] rfl Bg0 rfl Try.underlying26 rfl (by kernel_rfl) ?_) | ((go_at_call 18); (with_reducible refine (rprodC p0 p2 p3 p4 p5 p6 p7 p8 p9 256 A1 k1 l1 hw1 Wp2 (by decide) _ (Kd.C_below hr1 HS.out) hk1).mono ?_); rintro e w2 ⟨rfl, hl⟩; replace Bg0 := Bg0.below hl; replace HS := HS.below hl; clear hl; replace kg0_0 := Bg0.at 0 rfl) | (refine seg_load rfl (N := 14) rfl 26 (.tmp 1) rfl g0 0 [.int .i64 p0, .slice A1 l1.length k1, .int .u64 p2, .int .u64 p3, .int .u64 p4, .int .u64 p5, .int .u64 p6, .int .u64 p7, .int .u64 p8, .int .u64 p9] rfl Bg0 rfl Try.underlying26 rfl (by kernel_rfl) ?_) | ((go_at_call 18); (with_reducible refine (rprodC p0 p2 p3 p4 p5 p6 p7 p8 p9 512 A1 k1 l1 hw1 Wp2 (by decide) _ (Kd.C_below hr1 HS.out) hk1).mono ?_); rintro e w3 ⟨rfl, hl⟩; replace Bg0 := Bg0.below hl; replace HS := HS.below hl; clear hl; clear kg0_0) | ((go_at_call 31); (with_reducible refine (wigwagref10_HeldT.C (uProd l1 p2 512) _).mono ?_); rintro e w4 ⟨rfl, hd⟩; have hl := hd.below; clear hd; replace Bg0 := Bg0.below hl; replace HS := HS.below hl; clear hl; have kg0_9 := Bg0.at 9 rfl))
 all_goals (go_ret; exact ⟨rfl, HS.out⟩)
theorem winR_11 (p0 p2 p3 p4 p5 p6 p7 p8 p9 : Int) (A1 : Option Addr) (k1 : Nat) (Wp2 : W64 p2) (w : World) (l1 : List S52) (hr1 : Kd.C k52 w A1 l1.length l1) (hk1 : l1.length ≤ k1) (hw1 : SWf l1) (h0 : (p0 == 3) = false) (h1 : ((uProd l1 p2 256) == 0) = false) (h2 : (p0 == 0) = false) (h3 : (decide (p9 < uHeld (uProd l1 p2 512))) = false) (h4 : (decide (uHeld (uProd l1 p2 512) < 4800)) = false) :
  Calls Try.prog 20 #[.agg #[.int .i64 p0, .slice A1 l1.length k1, .int .u64 p2, .int .u64 p3, .int .u64 p4, .int .u64 p5, .int .u64 p6, .int .u64 p7, .int .u64 p8, .int .u64 p9]] w fun e w' => e = .returned (.int .u64 (uHeld (uProd l1 p2 512))) ∧ Below w.heap.size w w' := by
 have hu26 := Try.underlying26
 have HS := Since.refl w
 go_enter Try.func20, Try.ntmps20
 go_wp2_with (first | (refine seg_new rfl (N := 1) rfl [.int .i64 p0, .slice A1 l1.length k1, .int .u64 p2, .int .u64 p3, .int .u64 p4, .int .u64 p5, .int .u64 p6, .int .u64 p7, .int .u64 p8, .int .u64 p9] 26 ?hr ?_; (case hr => rfl); intro g0 hg w1 hn hl; have GEg0 := ge_new HS hg; clear hg; replace HS := HS.below hl; have Bg0 := hn; clear hl hn; have kg0_0 := Bg0.at 0 rfl) | (refine seg_load rfl (N := 8) rfl 26 (.tmp 1) rfl g0 0 [.int .i64 p0, .slice A1 l1.length k1, .int .u64 p2, .int .u64 p3, .int .u64 p4, .int .u64 p5, .int .u64 p6, .int .u64 p7, .int .u64 p8, .int .u64 p9] rfl Bg0 rfl Try.underlying26 rfl (by kernel_rfl) ?_) | ((go_at_call 18); (with_reducible refine (rprodC p0 p2 p3 p4 p5 p6 p7 p8 p9 256 A1 k1 l1 hw1 Wp2 (by decide) _ (Kd.C_below hr1 HS.out) hk1).mono ?_); rintro e w2 ⟨rfl, hl⟩; replace Bg0 := Bg0.below hl; replace HS := HS.below hl; clear hl; replace kg0_0 := Bg0.at 0 rfl) | (refine seg_load rfl (N := 14) rfl 26 (.tmp 1) rfl g0 0 [.int .i64 p0, .slice A1 l1.length k1, .int .u64 p2, .int .u64 p3, .int .u64 p4, .int .u64 p5, .int .u64 p6, .int .u64 p7, .int .u64 p8, .int .u64 p9] rfl Bg0 rfl Try.underlying26 rfl (by kernel_rfl) ?_) | ((go_at_call 18); (with_reducible refine (rprodC p0 p2 p3 p4 p5 p6 p7 p8 p9 512 A1 k1 l1 hw1 Wp2 (by decide) _ (Kd.C_below hr1 HS.out) hk1).mono ?_); rintro e w3 ⟨rfl, hl⟩; replace Bg0 := Bg0.below hl; replace HS := HS.below hl; clear hl; clear kg0_0) | ((go_at_call 31); (with_reducible refine (wigwagref10_HeldT.C (uProd l1 p2 512) _).mono ?_); rintro e w4 ⟨rfl, hd⟩; have hl := hd.below; clear hd; replace Bg0 := Bg0.below hl; replace HS := HS.below hl; clear hl; have kg0_9 := Bg0.at 9 rfl))
 all_goals (go_ret; exact ⟨rfl, HS.out⟩)
theorem winRC (p0 p2 p3 p4 p5 p6 p7 p8 p9 : Int) (A1 : Option Addr) (k1 : Nat) (l1 : List S52) (hw1 : SWf l1) (Wp2 : W64 p2) (Wp9 : W64 p9) (w : World) (hr1 : Kd.C k52 w A1 l1.length l1) (hk1 : l1.length ≤ k1) :
  Calls Try.prog 20 #[.agg #[.int .i64 p0, .slice A1 l1.length k1, .int .u64 p2, .int .u64 p3, .int .u64 p4, .int .u64 p5, .int .u64 p6, .int .u64 p7, .int .u64 p8, .int .u64 p9]] w fun e w' => e = .returned (.int .u64 (uWin p0 l1 p2 p9)) ∧ Below w.heap.size w w' := by
 by_cases e1 : p0 = 3
 ·have f1 : (p0 == 3) = true := (by simpa using e1)
  refine (winR_0 p0 p2 p3 p4 p5 p6 p7 p8 p9 A1 k1 w l1 hr1 hk1 hw1 f1).mono ?_
  rintro e w' ⟨rfl, hb⟩
  refine ⟨?_, hb⟩
  simp [uWin, e1]
  all_goals (try omega)
 ·have f1 : (p0 == 3) = false := (by simpa using e1)
  by_cases e2 : (uProd l1 p2 256) = 0
  ·have f2 : ((uProd l1 p2 256) == 0) = true := (by simpa using e2)
   refine (winR_1 p0 p2 p3 p4 p5 p6 p7 p8 p9 A1 k1 Wp2 w l1 hr1 hk1 hw1 f1 f2).mono ?_
   rintro e w' ⟨rfl, hb⟩
   refine ⟨?_, hb⟩
   simp [uWin, e1, e2]
   all_goals (try omega)
  ·have f2 : ((uProd l1 p2 256) == 0) = false := (by simpa using e2)
   by_cases e3 : p0 = 0
   ·have f3 : (p0 == 0) = true := (by simpa using e3)
    by_cases e4 : p9 < uHeld (uProd l1 p2 739)
    ·have f4 : (decide (p9 < uHeld (uProd l1 p2 739))) = true := decide_eq_true e4
     by_cases e5 : p9 < 4800
     ·have f5 : (decide (p9 < 4800)) = true := decide_eq_true e5
      refine (winR_2 p0 p2 p3 p4 p5 p6 p7 p8 p9 A1 k1 Wp2 w l1 hr1 hk1 hw1 f1 f2 f3 f4 f5).mono ?_
      rintro e w' ⟨rfl, hb⟩
      refine ⟨?_, hb⟩
      simp [uWin, e1, e2, e3, e4, e5]
      all_goals (try omega)
     ·have f5 : (decide (p9 < 4800)) = false := decide_eq_false e5
      refine (winR_3 p0 p2 p3 p4 p5 p6 p7 p8 p9 A1 k1 Wp2 w l1 hr1 hk1 hw1 f1 f2 f3 f4 f5).mono ?_
      rintro e w' ⟨rfl, hb⟩
      refine ⟨?_, hb⟩
      simp [uWin, e1, e2, e3, e4, e5]
      all_goals (try omega)
    ·have f4 : (decide (p9 < uHeld (uProd l1 p2 739))) = false := decide_eq_false e4
     by_cases e6 : uHeld (uProd l1 p2 739) < 4800
     ·have f6 : (decide (uHeld (uProd l1 p2 739) < 4800)) = true := decide_eq_true e6
      by_cases e7 : 4800 ≤ p9
      ·have f7 : (decide (4800 ≤ p9)) = true := decide_eq_true e7
       refine (winR_4 p0 p2 p3 p4 p5 p6 p7 p8 p9 A1 k1 Wp2 w l1 hr1 hk1 hw1 f1 f2 f3 f4 f6 f7).mono ?_
       rintro e w' ⟨rfl, hb⟩
       refine ⟨?_, hb⟩
       simp [uWin, e1, e2, e3, e4, e6, e7]
       all_goals (try omega)
      ·have f7 : (decide (4800 ≤ p9)) = false := decide_eq_false e7
       refine (winR_5 p0 p2 p3 p4 p5 p6 p7 p8 p9 A1 k1 Wp2 w l1 hr1 hk1 hw1 f1 f2 f3 f4 f6 f7).mono ?_
       rintro e w' ⟨rfl, hb⟩
       refine ⟨?_, hb⟩
       simp [uWin, e1, e2, e3, e4, e6, e7]
       all_goals (try omega)
     ·have f6 : (decide (uHeld (uProd l1 p2 739) < 4800)) = false := decide_eq_false e6
      refine (winR_6 p0 p2 p3 p4 p5 p6 p7 p8 p9 A1 k1 Wp2 w l1 hr1 hk1 hw1 f1 f2 f3 f4 f6).mono ?_
      rintro e w' ⟨rfl, hb⟩
      refine ⟨?_, hb⟩
      simp [uWin, e1, e2, e3, e4, e6]
      all_goals (try omega)
   ·have f3 : (p0 == 0) = false := (by simpa using e3)
    by_cases e8 : p9 < uHeld (uProd l1 p2 512)
    ·have f8 : (decide (p9 < uHeld (uProd l1 p2 512))) = true := decide_eq_true e8
     by_cases e9 : p9 < 4800
     ·have f9 : (decide (p9 < 4800)) = true := decide_eq_true e9
      refine (winR_7 p0 p2 p3 p4 p5 p6 p7 p8 p9 A1 k1 Wp2 w l1 hr1 hk1 hw1 f1 f2 f3 f8 f9).mono ?_
      rintro e w' ⟨rfl, hb⟩
      refine ⟨?_, hb⟩
      simp [uWin, e1, e2, e3, e8, e9]
      all_goals (try omega)
     ·have f9 : (decide (p9 < 4800)) = false := decide_eq_false e9
      refine (winR_8 p0 p2 p3 p4 p5 p6 p7 p8 p9 A1 k1 Wp2 w l1 hr1 hk1 hw1 f1 f2 f3 f8 f9).mono ?_
      rintro e w' ⟨rfl, hb⟩
      refine ⟨?_, hb⟩
      simp [uWin, e1, e2, e3, e8, e9]
      all_goals (try omega)
    ·have f8 : (decide (p9 < uHeld (uProd l1 p2 512))) = false := decide_eq_false e8
     by_cases e10 : uHeld (uProd l1 p2 512) < 4800
     ·have f10 : (decide (uHeld (uProd l1 p2 512) < 4800)) = true := decide_eq_true e10
      by_cases e11 : 4800 ≤ p9
      ·have f11 : (decide (4800 ≤ p9)) = true := decide_eq_true e11
       refine (winR_9 p0 p2 p3 p4 p5 p6 p7 p8 p9 A1 k1 Wp2 w l1 hr1 hk1 hw1 f1 f2 f3 f8 f10 f11).mono ?_
       rintro e w' ⟨rfl, hb⟩
       refine ⟨?_, hb⟩
       simp [uWin, e1, e2, e3, e8, e10, e11]
       all_goals (try omega)
      ·have f11 : (decide (4800 ≤ p9)) = false := decide_eq_false e11
       refine (winR_10 p0 p2 p3 p4 p5 p6 p7 p8 p9 A1 k1 Wp2 w l1 hr1 hk1 hw1 f1 f2 f3 f8 f10 f11).mono ?_
       rintro e w' ⟨rfl, hb⟩
       refine ⟨?_, hb⟩
       simp [uWin, e1, e2, e3, e8, e10, e11]
       all_goals (try omega)
     ·have f10 : (decide (uHeld (uProd l1 p2 512) < 4800)) = false := decide_eq_false e10
      refine (winR_11 p0 p2 p3 p4 p5 p6 p7 p8 p9 A1 k1 Wp2 w l1 hr1 hk1 hw1 f1 f2 f3 f8 f10).mono ?_
      rintro e w' ⟨rfl, hb⟩
      refine ⟨?_, hb⟩
      simp [uWin, e1, e2, e3, e8, e10]
      all_goals (try omega)
theorem lossP_0 (p0 p2 p3 p4 p5 p6 p7 p8 p9 fl : Int) (A1 : Option Addr) (n1 k1 : Nat) (Wfl : W64 fl) (w : World) :
  Calls Try.prog 13 #[.agg #[.int .i64 p0, .slice A1 n1 k1, .int .u64 p2, .int .u64 p3, .int .u64 p4, .int .u64 p5, .int .u64 p6, .int .u64 p7, .int .u64 p8, .int .u64 p9], .int .u64 fl] w fun e w' => e = .returned (.agg #[.int .i64 p0, .slice A1 n1 k1, .int .u64 p2, .int .u64 p3, .int .u64 p4, .int .u64 p5, .int .u64 p6, .int .u64 p7, .int .u64 p8, .int .u64 (min p9 (uHeld (uMulDiv fl 7 10)))]) ∧ Below w.heap.size w w' := by
 have hu26 := Try.underlying26
 have HS := Since.refl w
 go_enter Try.func13, Try.ntmps13
 go_wp2_with (first | (refine seg_new rfl (N := 2) rfl [.int .i64 p0, .slice A1 n1 k1, .int .u64 p2, .int .u64 p3, .int .u64 p4, .int .u64 p5, .int .u64 p6, .int .u64 p7, .int .u64 p8, .int .u64 p9] 26 ?hr ?_; (case hr => rfl); intro g0 hg w1 hn hl; have GEg0 := ge_new HS hg; clear hg; replace HS := HS.below hl; have Bg0 := hn; clear hl hn) | (refine seg_new rfl (N := 4) rfl [.int .i64 0, .slice none 0 0, .int .u64 0, .int .u64 0, .int .u64 0, .int .u64 0, .int .u64 0, .int .u64 0, .int .u64 0, .int .u64 0] 26 ?hr ?_; (case hr => rfl); intro g1 hg w2 hn hl; have Ng1_g0 := ne_new Bg0 hg; have GEg1 := ge_new HS hg; clear hg; replace Bg0 := Bg0.below hl; replace HS := HS.below hl; have Bg1 := hn; clear hl hn; have kg0_9 := Bg0.at 9 rfl; have zg0_9 := Bg0.frozen 9))
 refine start_ (n := 8) (S := fun w' => w'.cell? ⟨g0, 9, none⟩ = some (.int .u64 p9)) (ds := [7]) (bs 8 0) (by kernel_rfl) rfl rfl ((Bg0.drew.cell 9).trans rfl) (fun hHeld => ?_)
 generalize hWd : World.drew w2 = w3 at hHeld ⊢
 have hl : Below w2.heap.size w2 w3 := (by rw [← hWd]; exact below_drew1 (Below.refl _ _))
 clear hWd
 replace Bg0 := Bg0.below hl; replace Bg1 := Bg1.below hl; replace HS := HS.below hl; clear hl; replace kg0_9 := Bg0.at 9 rfl; replace zg0_9 := Bg0.frozen 9
 refine pu 0 5 (.pointer (some ⟨g0, 9, none⟩)) 1 rfl rfl (by kernel_rfl) (fun _ _ _ h => h) (by rfl) (fun _ => by kernel_rfl) rfl ?_
 refine pu 2 7 (.int .u64 fl) 5 rfl rfl (by kernel_rfl) (fun _ _ _ h => h) (by rfl) (fun _ => by kernel_rfl) rfl ?_
 refine norm_ (a' := ?_) ?_ ?_
 rotate_left
 ·simp only [Act.put, zA_, z0_, z1_, i64_w, i32_w]
  rfl
 refine take_ (i := 1) (N := some 6) (v := ?_) (a' := ?_) (bs 8 7) rfl rfl (by kernel_rfl) (fun _ _ _ h => h) (Or.inl ⟨by rfl, ?_⟩) hHeld ?_ ?_
 rotate_left
 ·intro w' s0
  go_simp
  with_reducible rfl
 rotate_left
 ·simp only [Act.put, zA_, z0_, z1_, i64_w, i32_w]
  rfl
 refine one_ (i := 3) (N := some 8) (bs 8 15) rfl rfl (by kernel_rfl) (by decide) (fun K hK => ?_)
 refine goes_ Try.func35 (by kernel_rfl) rfl #[.int .u64 fl, .int .u64 7, .int .u64 10] (by rfl) rfl rfl (by simp only [List.map_toArray, List.map_cons, List.map_nil]; rfl) ?_
 with_reducible refine (fix_MulDivT.C fl 7 10 Wfl (by decide) (by decide) _).mono ?_
 rintro e w4 ⟨rfl, hd⟩
 refine ⟨_, rfl, ?_⟩
 have hl := hd.below
 clear hd
 replace Bg0 := Bg0.below hl; replace Bg1 := Bg1.below hl; replace HS := HS.below hl; clear hl; replace kg0_9 := Bg0.at 9 rfl; replace zg0_9 := Bg0.frozen 9
 refine hK.out _ _ ((Bg0.cell 9).trans rfl) (fun hHeld => ?_)
 clear hK K
 refine norm_ (a' := ?_) ?_ ?_
 rotate_left
 ·show Act.put _ (some 8) _ = _
  simp only [Act.put, zA_, z0_, z1_, i64_w, i32_w]
  rfl
 refine one_ (i := 4) (N := some 9) (bs 8 31) rfl rfl (by kernel_rfl) (by decide) (fun K hK => ?_)
 refine goes_ Try.func27 (by kernel_rfl) rfl #[.int .u64 (uMulDiv fl 7 10)] (by rfl) rfl rfl (by simp only [List.map_toArray, List.map_cons, List.map_nil]; rfl) ?_
 with_reducible refine (reno_Held.C (uMulDiv fl 7 10) _).mono ?_
 rintro e w5 ⟨rfl, hd⟩
 refine ⟨_, rfl, ?_⟩
 have hl := hd.below
 clear hd
 replace Bg0 := Bg0.below hl; replace Bg1 := Bg1.below hl; replace HS := HS.below hl; clear hl; replace kg0_9 := Bg0.at 9 rfl; replace zg0_9 := Bg0.frozen 9
 refine hK.out _ _ ((Bg0.cell 9).trans rfl) (fun hHeld => ?_)
 clear hK K
 refine norm_ (a' := ?_) ?_ ?_
 rotate_left
 ·show Act.put _ (some 9) _ = _
  simp only [Act.put, zA_, z0_, z1_, i64_w, i32_w]
  rfl
 refine pure_ (i := 5) (N := some 10) (v := ?_) (a' := ?_) (bs 8 63) rfl rfl (by kernel_rfl) (fun _ _ _ h => h) (Or.inl ⟨by rfl, ?_⟩) ?_ ?_
 rotate_left
 ·intro w'
  go_simp
  with_reducible rfl
 rotate_left
 ·simp only [Act.put, zA_, z0_, z1_, i64_w, i32_w]
  rfl
 refine pu 6 11 (.pointer (some ⟨g0, 9, none⟩)) 127 rfl rfl (by kernel_rfl) (fun _ _ _ h => h) (by rfl) (fun _ => by kernel_rfl) rfl ?_
 refine norm_ (a' := ?_) ?_ ?_
 rotate_left
 ·simp only [Act.put, zA_, z0_, z1_, i64_w, i32_w]
  rfl
 refine last_ (i := 7) (N := none) (bs 8 255) rfl rfl (by kernel_rfl) (by decide) (fun K hK => ?_)
 refine skip_ (w1 := ?_) (by rfl) rfl ?_ ?_
 rotate_left
 ·go_simp
  rfl
 refine hK.out _ _ ?_
 clear hK K
 refine done_ (by kernel_rfl) ?_
 refine letter ?_
 intro w6 hW
 have Bn_ : Blk w6 g0 26 [.int .i64 p0, .slice A1 n1 k1, .int .u64 p2, .int .u64 p3, .int .u64 p4, .int .u64 p5, .int .u64 p6, .int .u64 p7, .int .u64 p8, .int .u64 (min p9 (uHeld (uMulDiv fl 7 10)))] := (by rw [hW]; (repeat (first | (with_reducible refine Blk.drewN ?_ _) | (with_reducible refine Blk.drew ?_))); refine Blk.set (l := [.int .i64 p0, .slice A1 n1 k1, .int .u64 p2, .int .u64 p3, .int .u64 p4, .int .u64 p5, .int .u64 p6, .int .u64 p7, .int .u64 p8, .int .u64 p9]) ?_ 9 _ rfl; (repeat (first | (with_reducible refine Blk.drewN ?_ _) | (with_reducible refine Blk.drew ?_))); exact Bg0)
 replace Bg0 := Bn_
 clear Bn_
 have Bn_ : Blk w6 g1 26 [.int .i64 0, .slice none 0 0, .int .u64 0, .int .u64 0, .int .u64 0, .int .u64 0, .int .u64 0, .int .u64 0, .int .u64 0, .int .u64 0] := (by rw [hW]; (repeat (first | (with_reducible refine Blk.drewN ?_ _) | (with_reducible refine Blk.drew ?_))); refine Blk.setFar ?_ Ng1_g0; (repeat (first | (with_reducible refine Blk.drewN ?_ _) | (with_reducible refine Blk.drew ?_))); exact Bg1)
 replace Bg1 := Bn_
 clear Bn_
 have HS_ : Since w w6 := (by rw [hW]; repeat (first | (with_reducible exact HS) | (with_reducible refine Since.drewN ?_ _) | (with_reducible refine Since.drew ?_) | (with_reducible refine Since.set ?_ GEg0)))
 replace HS := HS_
 clear HS_ hW
 clear kg0_9 zg0_9
 go_wp2_with (first | (refine seg_load rfl (N := 12) rfl 26 (.tmp 2) rfl g0 0 [.int .i64 p0, .slice A1 n1 k1, .int .u64 p2, .int .u64 p3, .int .u64 p4, .int .u64 p5, .int .u64 p6, .int .u64 p7, .int .u64 p8, .int .u64 (min p9 (uHeld (uMulDiv fl 7 10)))] rfl Bg0 rfl Try.underlying26 rfl (by kernel_rfl) ?_) | (refine seg_store rfl rfl 26 (.tmp 4) (.tmp 12) rfl g1 0 [.int .i64 p0, .slice A1 n1 k1, .int .u64 p2, .int .u64 p3, .int .u64 p4, .int .u64 p5, .int .u64 p6, .int .u64 p7, .int .u64 p8, .int .u64 (min p9 (uHeld (uMulDiv fl 7 10)))] [.int .i64 p0, .slice A1 n1 k1, .int .u64 p2, .int .u64 p3, .int .u64 p4, .int .u64 p5, .int .u64 p6, .int .u64 p7, .int .u64 p8, .int .u64 (min p9 (uHeld (uMulDiv fl 7 10)))] (.agg #[.int .i64 p0, .slice A1 n1 k1, .int .u64 p2, .int .u64 p3, .int .u64 p4, .int .u64 p5, .int .u64 p6, .int .u64 p7, .int .u64 p8, .int .u64 (min p9 (uHeld (uMulDiv fl 7 10)))]) rfl rfl rfl Bg1 (by kernel_rfl) (nle rfl) rfl rfl ?_; intro w7 hn hw; replace Bg0 := Bg0.grown hw Ng1_g0.symm; replace HS := HS.grown hw GEg1; replace Bg1 := hn; clear hw; clear hn))
 all_goals exact bodyPost_ret (results_cell1 rfl _ _ g1 26 [.int .i64 p0, .slice A1 n1 k1, .int .u64 p2, .int .u64 p3, .int .u64 p4, .int .u64 p5, .int .u64 p6, .int .u64 p7, .int .u64 p8, .int .u64 (min p9 (uHeld (uMulDiv fl 7 10)))] _ rfl Bg1 Try.underlying26 rfl (by kernel_rfl)) rfl ⟨rfl, HS.out⟩
theorem lossR_0 (p0 p2 p3 p4 p5 p6 p7 p8 p9 fl : Int) (A1 : Option Addr) (n1 k1 : Nat) (Wfl : W64 fl) (w : World) (h0 : (decide (uHeld (uMulDiv fl 7 10) < p9)) = true) :
  Calls Try.prog 14 #[.agg #[.int .i64 p0, .slice A1 n1 k1, .int .u64 p2, .int .u64 p3, .int .u64 p4, .int .u64 p5, .int .u64 p6, .int .u64 p7, .int .u64 p8, .int .u64 p9], .int .u64 fl] w fun e w' => e = .returned (.agg #[.int .i64 p0, .slice A1 n1 k1, .int .u64 p2, .int .u64 p3, .int .u64 p4, .int .u64 p5, .int .u64 p6, .int .u64 p7, .int .u64 p8, .int .u64 (uHeld (uMulDiv fl 7 10))]) ∧ Below w.heap.size w w' := by
 have hu26 := Try.underlying26
 have HS := Since.refl w
 go_enter Try.func14, Try.ntmps14
 go_wp2_with (first | (refine seg_new rfl (N := 2) rfl [.int .i64 p0, .slice A1 n1 k1, .int .u64 p2, .int .u64 p3, .int .u64 p4, .int .u64 p5, .int .u64 p6, .int .u64 p7, .int .u64 p8, .int .u64 p9] 26 ?hr ?_; (case hr => rfl); intro g0 hg w1 hn hl; have GEg0 := ge_new HS hg; clear hg; replace HS := HS.below hl; have Bg0 := hn; clear hl hn) | (refine seg_new rfl (N := 4) rfl [.int .i64 0, .slice none 0 0, .int .u64 0, .int .u64 0, .int .u64 0, .int .u64 0, .int .u64 0, .int .u64 0, .int .u64 0, .int .u64 0] 26 ?hr ?_; (case hr => rfl); intro g1 hg w2 hn hl; have Ng1_g0 := ne_new Bg0 hg; have GEg1 := ge_new HS hg; clear hg; replace Bg0 := Bg0.below hl; replace HS := HS.below hl; have Bg1 := hn; clear hl hn) | ((go_at_call 36); (with_reducible refine (wigwagref01_MulDivT.C fl 7 10 Wfl (by decide) (by decide) _).mono ?_); rintro e w3 ⟨rfl, hd⟩; have hl := hd.below; clear hd; replace Bg0 := Bg0.below hl; replace Bg1 := Bg1.below hl; replace HS := HS.below hl; clear hl) | ((go_at_call 31); (with_reducible refine (wigwagref10_HeldT.C (uMulDiv fl 7 10) _).mono ?_); rintro e w4 ⟨rfl, hd⟩; have hl := hd.below; clear hd; replace Bg0 := Bg0.below hl; replace Bg1 := Bg1.below hl; replace HS := HS.below hl; clear hl; have kg0_9 := Bg0.at 9 rfl) | (refine seg_store rfl rfl 24 (.tmp 14) (.tmp 13) rfl g0 9 [.int .u64 (uHeld (uMulDiv fl 7 10))] [.int .i64 p0, .slice A1 n1 k1, .int .u64 p2, .int .u64 p3, .int .u64 p4, .int .u64 p5, .int .u64 p6, .int .u64 p7, .int .u64 p8, .int .u64 (uHeld (uMulDiv fl 7 10))] (.int .u64 (uHeld (uMulDiv fl 7 10))) rfl rfl rfl Bg0 (by kernel_rfl) (nle rfl) rfl rfl ?_; intro w5 hn hw; replace Bg1 := Bg1.grown hw Ng1_g0; replace HS := HS.grown hw GEg0; replace Bg0 := hn; clear hw; clear kg0_9; clear hn) | (refine seg_load rfl (N := 15) rfl 26 (.tmp 2) rfl g0 0 [.int .i64 p0, .slice A1 n1 k1, .int .u64 p2, .int .u64 p3, .int .u64 p4, .int .u64 p5, .int .u64 p6, .int .u64 p7, .int .u64 p8, .int .u64 (uHeld (uMulDiv fl 7 10))] rfl Bg0 rfl Try.underlying26 rfl (by kernel_rfl) ?_) | (refine seg_store rfl rfl 26 (.tmp 4) (.tmp 15) rfl g1 0 [.int .i64 p0, .slice A1 n1 k1, .int .u64 p2, .int .u64 p3, .int .u64 p4, .int .u64 p5, .int .u64 p6, .int .u64 p7, .int .u64 p8, .int .u64 (uHeld (uMulDiv fl 7 10))] [.int .i64 p0, .slice A1 n1 k1, .int .u64 p2, .int .u64 p3, .int .u64 p4, .int .u64 p5, .int .u64 p6, .int .u64 p7, .int .u64 p8, .int .u64 (uHeld (uMulDiv fl 7 10))] (.agg #[.int .i64 p0, .slice A1 n1 k1, .int .u64 p2, .int .u64 p3, .int .u64 p4, .int .u64 p5, .int .u64 p6, .int .u64 p7, .int .u64 p8, .int .u64 (uHeld (uMulDiv fl 7 10))]) rfl rfl rfl Bg1 (by kernel_rfl) (nle rfl) rfl rfl ?_; intro w6 hn hw; replace Bg0 := Bg0.grown hw Ng1_g0.symm; replace HS := HS.grown hw GEg1; replace Bg1 := hn; clear hw; clear hn))
 all_goals exact bodyPost_ret (results_cell1 rfl _ _ g1 26 [.int .i64 p0, .slice A1 n1 k1, .int .u64 p2, .int .u64 p3, .int .u64 p4, .int .u64 p5, .int .u64 p6, .int .u64 p7, .int .u64 p8, .int .u64 (uHeld (uMulDiv fl 7 10))] _ rfl Bg1 Try.underlying26 rfl (by kernel_rfl)) rfl ⟨rfl, HS.out⟩
theorem lossR_1 (p0 p2 p3 p4 p5 p6 p7 p8 p9 fl : Int) (A1 : Option Addr) (n1 k1 : Nat) (Wfl : W64 fl) (w : World) (h0 : (decide (uHeld (uMulDiv fl 7 10) < p9)) = false) :
  Calls Try.prog 14 #[.agg #[.int .i64 p0, .slice A1 n1 k1, .int .u64 p2, .int .u64 p3, .int .u64 p4, .int .u64 p5, .int .u64 p6, .int .u64 p7, .int .u64 p8, .int .u64 p9], .int .u64 fl] w fun e w' => e = .returned (.agg #[.int .i64 p0, .slice A1 n1 k1, .int .u64 p2, .int .u64 p3, .int .u64 p4, .int .u64 p5, .int .u64 p6, .int .u64 p7, .int .u64 p8, .int .u64 p9]) ∧ Below w.heap.size w w' := by
 have hu26 := Try.underlying26
 have HS := Since.refl w
 go_enter Try.func14, Try.ntmps14
 go_wp2_with (first | (refine seg_new rfl (N := 2) rfl [.int .i64 p0, .slice A1 n1 k1, .int .u64 p2, .int .u64 p3, .int .u64 p4, .int .u64 p5, .int .u64 p6, .int .u64 p7, .int .u64 p8, .int .u64 p9] 26 ?hr ?_; (case hr => rfl); intro g0 hg w1 hn hl; have GEg0 := ge_new HS hg; clear hg; replace HS := HS.below hl; have Bg0 := hn; clear hl hn) | (refine seg_new rfl (N := 4) rfl [.int .i64 0, .slice none 0 0, .int .u64 0, .int .u64 0, .int .u64 0, .int .u64 0, .int .u64 0, .int .u64 0, .int .u64 0, .int .u64 0] 26 ?hr ?_; (case hr => rfl); intro g1 hg w2 hn hl; have Ng1_g0 := ne_new Bg0 hg; have GEg1 := ge_new HS hg; clear hg; replace Bg0 := Bg0.below hl; replace HS := HS.below hl; have Bg1 := hn; clear hl hn) | ((go_at_call 36); (with_reducible refine (wigwagref01_MulDivT.C fl 7 10 Wfl (by decide) (by decide) _).mono ?_); rintro e w3 ⟨rfl, hd⟩; have hl := hd.below; clear hd; replace Bg0 := Bg0.below hl; replace Bg1 := Bg1.below hl; replace HS := HS.below hl; clear hl) | ((go_at_call 31); (with_reducible refine (wigwagref10_HeldT.C (uMulDiv fl 7 10) _).mono ?_); rintro e w4 ⟨rfl, hd⟩; have hl := hd.below; clear hd; replace Bg0 := Bg0.below hl; replace Bg1 := Bg1.below hl; replace HS := HS.below hl; clear hl; have kg0_9 := Bg0.at 9 rfl) | (refine seg_load rfl (N := 15) rfl 26 (.tmp 2) rfl g0 0 [.int .i64 p0, .slice A1 n1 k1, .int .u64 p2, .int .u64 p3, .int .u64 p4, .int .u64 p5, .int .u64 p6, .int .u64 p7, .int .u64 p8, .int .u64 p9] rfl Bg0 rfl Try.underlying26 rfl (by kernel_rfl) ?_) | (refine seg_store rfl rfl 26 (.tmp 4) (.tmp 15) rfl g1 0 [.int .i64 p0, .slice A1 n1 k1, .int .u64 p2, .int .u64 p3, .int .u64 p4, .int .u64 p5, .int .u64 p6, .int .u64 p7, .int .u64 p8, .int .u64 p9] [.int .i64 p0, .slice A1 n1 k1, .int .u64 p2, .int .u64 p3, .int .u64 p4, .int .u64 p5, .int .u64 p6, .int .u64 p7, .int .u64 p8, .int .u64 p9] (.agg #[.int .i64 p0, .slice A1 n1 k1, .int .u64 p2, .int .u64 p3, .int .u64 p4, .int .u64 p5, .int .u64 p6, .int .u64 p7, .int .u64 p8, .int .u64 p9]) rfl rfl rfl Bg1 (by kernel_rfl) (nle rfl) rfl rfl ?_; intro w5 hn hw; replace Bg0 := Bg0.grown hw Ng1_g0.symm; replace HS := HS.grown hw GEg1; replace Bg1 := hn; clear hw; clear kg0_9; clear hn))
 all_goals exact bodyPost_ret (results_cell1 rfl _ _ g1 26 [.int .i64 p0, .slice A1 n1 k1, .int .u64 p2, .int .u64 p3, .int .u64 p4, .int .u64 p5, .int .u64 p6, .int .u64 p7, .int .u64 p8, .int .u64 p9] _ rfl Bg1 Try.underlying26 rfl (by kernel_rfl)) rfl ⟨rfl, HS.out⟩
theorem newP_0 (now : Int)  (w : World) :
  Calls Try.prog 15 #[.int .u64 now] w fun e w' => e = .returned (.agg #[.int .i64 0, .slice none 0 0, .int .u64 18446744073709551615, .int .u64 now, .int .u64 0, .int .u64 0, .int .u64 0, .int .u64 0, .int .u64 now, .int .u64 16777216]) ∧ Below w.heap.size w w' := by
 have hu26 := Try.underlying26
 have HS := Since.refl w
 go_enter Try.func15, Try.ntmps15
 go_wp2_with (first | (refine seg_new rfl (N := 2) rfl [.int .i64 0, .slice none 0 0, .int .u64 0, .int .u64 0, .int .u64 0, .int .u64 0, .int .u64 0, .int .u64 0, .int .u64 0, .int .u64 0] 26 ?hr ?_; (case hr => rfl); intro g0 hg w1 hn hl; have GEg0 := ge_new HS hg; clear hg; replace HS := HS.below hl; have Bg0 := hn; clear hl hn) | (refine seg_store rfl rfl 26 (.tmp 2) (.tmp 5) rfl g0 0 [.int .i64 0, .slice none 0 0, .int .u64 18446744073709551615, .int .u64 now, .int .u64 0, .int .u64 0, .int .u64 0, .int .u64 0, .int .u64 now, .int .u64 16777216] [.int .i64 0, .slice none 0 0, .int .u64 18446744073709551615, .int .u64 now, .int .u64 0, .int .u64 0, .int .u64 0, .int .u64 0, .int .u64 now, .int .u64 16777216] (.agg #[.int .i64 0, .slice none 0 0, .int .u64 18446744073709551615, .int .u64 now, .int .u64 0, .int .u64 0, .int .u64 0, .int .u64 0, .int .u64 now, .int .u64 16777216]) rfl rfl rfl Bg0 (by kernel_rfl) (nle rfl) rfl rfl ?_; intro w2 hn hw; replace HS := HS.grown hw GEg0; replace Bg0 := hn; clear hw; clear hn))
 all_goals exact bodyPost_ret (results_cell1 rfl _ _ g0 26 [.int .i64 0, .slice none 0 0, .int .u64 18446744073709551615, .int .u64 now, .int .u64 0, .int .u64 0, .int .u64 0, .int .u64 0, .int .u64 now, .int .u64 16777216] _ rfl Bg0 Try.underlying26 rfl (by kernel_rfl)) rfl ⟨rfl, HS.out⟩
theorem newR_0 (now : Int)  (w : World) :
  Calls Try.prog 16 #[.int .u64 now] w fun e w' => e = .returned (.agg #[.int .i64 0, .slice none 0 0, .int .u64 18446744073709551615, .int .u64 now, .int .u64 0, .int .u64 0, .int .u64 0, .int .u64 0, .int .u64 now, .int .u64 16777216]) ∧ Below w.heap.size w w' := by
 have hu26 := Try.underlying26
 have HS := Since.refl w
 go_enter Try.func16, Try.ntmps16
 go_wp2_with (first | (refine seg_new rfl (N := 2) rfl [.int .i64 0, .slice none 0 0, .int .u64 0, .int .u64 0, .int .u64 0, .int .u64 0, .int .u64 0, .int .u64 0, .int .u64 0, .int .u64 0] 26 ?hr ?_; (case hr => rfl); intro g0 hg w1 hn hl; have GEg0 := ge_new HS hg; clear hg; replace HS := HS.below hl; have Bg0 := hn; clear hl hn) | (refine seg_store rfl rfl 26 (.tmp 2) (.tmp 5) rfl g0 0 [.int .i64 0, .slice none 0 0, .int .u64 18446744073709551615, .int .u64 now, .int .u64 0, .int .u64 0, .int .u64 0, .int .u64 0, .int .u64 now, .int .u64 16777216] [.int .i64 0, .slice none 0 0, .int .u64 18446744073709551615, .int .u64 now, .int .u64 0, .int .u64 0, .int .u64 0, .int .u64 0, .int .u64 now, .int .u64 16777216] (.agg #[.int .i64 0, .slice none 0 0, .int .u64 18446744073709551615, .int .u64 now, .int .u64 0, .int .u64 0, .int .u64 0, .int .u64 0, .int .u64 now, .int .u64 16777216]) rfl rfl rfl Bg0 (by kernel_rfl) (nle rfl) rfl rfl ?_; intro w2 hn hw; replace HS := HS.grown hw GEg0; replace Bg0 := hn; clear hw; clear hn))
 all_goals exact bodyPost_ret (results_cell1 rfl _ _ g0 26 [.int .i64 0, .slice none 0 0, .int .u64 18446744073709551615, .int .u64 now, .int .u64 0, .int .u64 0, .int .u64 0, .int .u64 0, .int .u64 now, .int .u64 16777216] _ rfl Bg0 Try.underlying26 rfl (by kernel_rfl)) rfl ⟨rfl, HS.out⟩
theorem len_ok {n : Nat} (h : decide (100 < (n : Int)) = false) : n < 1000000 := by have := of_decide_eq_false h; omega
theorem pAck_len (st : Int) (l : List S52) (mn mat full still rounds phase since high now took flight rate : Int) (lim round : Bool) : (pAck st l mn mat full still rounds phase since high now took flight rate lim round).2.1.length ≤ l.length + 1 := by
 have hc : ∀ (st : Int) (l : List S52) (mn mat full still rounds phase since high now flight : Int) (lim round stale : Bool), (pMove st l mn mat full still rounds phase since high now flight lim round stale).2.1 = l := by
  intros
  unfold pMove
  repeat' split
  all_goals rfl
 unfold pAck
 dsimp only
 rw [hc]
 split
 ·exact uPush_len ..
 ·omega
theorem lossRC (p0 p2 p3 p4 p5 p6 p7 p8 p9 fl : Int) (A1 : Option Addr) (n1 k1 : Nat) (Wfl : W64 fl) (w : World) :
  Calls Try.prog 14 #[.agg #[.int .i64 p0, .slice A1 n1 k1, .int .u64 p2, .int .u64 p3, .int .u64 p4, .int .u64 p5, .int .u64 p6, .int .u64 p7, .int .u64 p8, .int .u64 p9], .int .u64 fl] w fun e w' => e = .returned (.agg #[.int .i64 p0, .slice A1 n1 k1, .int .u64 p2, .int .u64 p3, .int .u64 p4, .int .u64 p5, .int .u64 p6, .int .u64 p7, .int .u64 p8, .int .u64 (min p9 (uHeld (uMulDiv fl 7 10)))]) ∧ Below w.heap.size w w' := by
 rcases Bool.eq_false_or_eq_true (decide (uHeld (uMulDiv fl 7 10) < p9)) with h | h
 ·have e : min p9 (uHeld (uMulDiv fl 7 10)) = uHeld (uMulDiv fl 7 10) := by have := of_decide_eq_true h; omega
  rw [e]; exact lossR_0 p0 p2 p3 p4 p5 p6 p7 p8 p9 fl A1 n1 k1 Wfl w h
 ·have e : min p9 (uHeld (uMulDiv fl 7 10)) = p9 := by have := of_decide_eq_false h; omega
  rw [e]; exact lossR_1 p0 p2 p3 p4 p5 p6 p7 p8 p9 fl A1 n1 k1 Wfl w h
theorem awake_60 : wigwaglaw13_awake.f 60 = some true := by decide +kernel
theorem awakeC (w : World) : Calls Try.prog 9 #[] w fun e w' => e = .returned (.bool true) ∧ Below w.heap.size w w' := wigwaglaw13_awake.calls 60 true w awake_60
theorem tells0_0 (p0 p2 p3 p4 p5 p6 p7 p8 p9 g_0 g_1 g_2 g_3 g_4 g_5 g_6 g_7 fl parts : Int) (g_8 g_9 : Bool) (A1 : Option Addr) (k1 : Nat)  (w : World) (l1 : List S52) (hr1 : Kd.C k52 w A1 l1.length l1) (hk1 : l1.length ≤ k1) (hw1 : SWf l1) (h0 : (decide (100 < (l1.length : Int))) = true) :
  Calls Try.prog 4 #[.agg #[.int .i64 p0, .slice A1 l1.length k1, .int .u64 p2, .int .u64 p3, .int .u64 p4, .int .u64 p5, .int .u64 p6, .int .u64 p7, .int .u64 p8, .int .u64 p9], .agg #[.int .u64 g_0, .int .u64 g_1, .int .u64 g_2, .int .u64 g_3, .int .u64 g_4, .int .u64 g_5, .int .u64 g_6, .int .u64 g_7, .bool g_8, .bool g_9], .int .u64 fl, .int .u64 parts] w fun e w' => e = .returned (.bool true) ∧ Below w.heap.size w w' := by
 have hu26 := Try.underlying26
 have hu28 := Try.underlying28
 have n0 : decide (100 < l1.length) = true := by (have := h0; simp at this ⊢; omega)
 have HS := Since.refl w
 go_enter Try.func4, Try.ntmps4
 go_wp2_with (first | (refine seg_new rfl (N := 4) rfl [.int .i64 p0, .slice A1 l1.length k1, .int .u64 p2, .int .u64 p3, .int .u64 p4, .int .u64 p5, .int .u64 p6, .int .u64 p7, .int .u64 p8, .int .u64 p9] 26 ?hr ?_; (case hr => rfl); intro g0 hg w1 hn hl; have GEg0 := ge_new HS hg; clear hg; replace HS := HS.below hl; have Bg0 := hn; clear hl hn) | (refine seg_new rfl (N := 5) rfl [.int .u64 g_0, .int .u64 g_1, .int .u64 g_2, .int .u64 g_3, .int .u64 g_4, .int .u64 g_5, .int .u64 g_6, .int .u64 g_7, .bool g_8, .bool g_9] 28 ?hr ?_; (case hr => rfl); intro g1 hg w2 hn hl; have Ng1_g0 := ne_new Bg0 hg; have GEg1 := ge_new HS hg; clear hg; replace Bg0 := Bg0.below hl; replace HS := HS.below hl; have Bg1 := hn; clear hl hn) | ((go_at_call 9); (with_reducible refine (awakeC _).mono ?_); rintro e w3 ⟨rfl, hl⟩; replace Bg0 := Bg0.below hl; replace Bg1 := Bg1.below hl; replace HS := HS.below hl; clear hl; have kg0_1 := Bg0.at 1 rfl))
 all_goals (go_ret; exact ⟨by first | rfl | (simp; done), HS.out⟩)
theorem tells1_0 (p0 p2 p3 p4 p5 p6 p7 p8 p9 g_0 g_1 g_2 g_3 g_4 g_5 g_6 g_7 fl parts : Int) (g_8 g_9 : Bool) (A1 : Option Addr) (k1 : Nat) (Wp2 : W64 p2) (Wp3 : W64 p3) (Wp4 : W64 p4) (Wp5 : W64 p5) (Wp6 : W64 p6) (Wp7 : W64 p7) (Wp8 : W64 p8) (Wp9 : W64 p9) (Wg_0 : W64 g_0) (Wg_1 : W64 g_1) (Wg_2 : W64 g_2) (Wg_3 : W64 g_3) (Wg_4 : W64 g_4) (Wg_5 : W64 g_5) (Wg_6 : W64 g_6) (Wg_7 : W64 g_7) (Wfl : W64 fl) (Wparts : W64 parts) (w : World) (l1 : List S52) (hr1 : Kd.C k52 w A1 l1.length l1) (hk1 : l1.length ≤ k1) (hw1 : SWf l1) (h0 : (decide (100 < (l1.length : Int))) = false) :
  Calls Try.prog 4 #[.agg #[.int .i64 p0, .slice A1 l1.length k1, .int .u64 p2, .int .u64 p3, .int .u64 p4, .int .u64 p5, .int .u64 p6, .int .u64 p7, .int .u64 p8, .int .u64 p9], .agg #[.int .u64 g_0, .int .u64 g_1, .int .u64 g_2, .int .u64 g_3, .int .u64 g_4, .int .u64 g_5, .int .u64 g_6, .int .u64 g_7, .bool g_8, .bool g_9], .int .u64 fl, .int .u64 parts] w fun e w' => e = .returned (.bool true) ∧ Below w.heap.size w w' := by
 have hu26 := Try.underlying26
 have hu28 := Try.underlying28
 have hL1 : l1.length < 1000000 := len_ok h0
 obtain ⟨m0, mL, m2, m3, m4, m5, m6, m7, m8, m9, hM⟩ : ∃ m0 mL m2 m3 m4 m5 m6 m7 m8 m9, pAck p0 l1 p2 p3 p4 p5 p6 p7 p8 p9 g_0 g_5 g_6 g_7 g_8 g_9 = (m0, mL, m2, m3, m4, m5, m6, m7, m8, m9) := ⟨_, _, _, _, _, _, _, _, _, _, rfl⟩
 have hLM : mL.length < 1000000 := by have h1 := pAck_len p0 l1 p2 p3 p4 p5 p6 p7 p8 p9 g_0 g_5 g_6 g_7 g_8 g_9; rw [hM] at h1; have h2 := of_decide_eq_false h0; simp only [] at h1; omega
 have hA11 := fun (w : World) (hr1 : Kd.C k52 w A1 l1.length l1) => ackPC p0 p2 p3 p4 p5 p6 p7 p8 p9 g_0 g_1 g_2 g_3 g_4 g_5 g_6 g_7 g_8 g_9 A1 k1 l1 hw1 Wp2 Wp3 Wp4 Wp5 Wp6 Wp7 Wp8 Wp9 Wg_0 Wg_1 Wg_2 Wg_3 Wg_4 Wg_5 Wg_6 Wg_7 hL1 w hr1 hk1
 have hA12 := fun (w : World) (hr1 : Kd.C k52 w A1 l1.length l1) => ackRC p0 p2 p3 p4 p5 p6 p7 p8 p9 g_0 g_1 g_2 g_3 g_4 g_5 g_6 g_7 g_8 g_9 A1 k1 l1 hw1 Wp2 Wp3 Wp4 Wp5 Wp6 Wp7 Wp8 Wp9 Wg_0 Wg_1 Wg_2 Wg_3 Wg_4 Wg_5 Wg_6 Wg_7 hL1 w hr1 hk1
 simp only [hM] at hA11 hA12
 clear hM
 have n0 : decide (100 < l1.length) = false := by (have := h0; simp at this ⊢; omega)
 have HS := Since.refl w
 go_enter Try.func4, Try.ntmps4
 go_upto_region 4 with (first | (refine seg_new rfl (N := 4) rfl [.int .i64 p0, .slice A1 l1.length k1, .int .u64 p2, .int .u64 p3, .int .u64 p4, .int .u64 p5, .int .u64 p6, .int .u64 p7, .int .u64 p8, .int .u64 p9] 26 ?hr ?_; (case hr => rfl); intro g0 hg w1 hn hl; have GEg0 := ge_new HS hg; clear hg; replace HS := HS.below hl; have Bg0 := hn; clear hl hn) | (refine seg_new rfl (N := 5) rfl [.int .u64 g_0, .int .u64 g_1, .int .u64 g_2, .int .u64 g_3, .int .u64 g_4, .int .u64 g_5, .int .u64 g_6, .int .u64 g_7, .bool g_8, .bool g_9] 28 ?hr ?_; (case hr => rfl); intro g1 hg w2 hn hl; have Ng1_g0 := ne_new Bg0 hg; have GEg1 := ge_new HS hg; clear hg; replace Bg0 := Bg0.below hl; replace HS := HS.below hl; have Bg1 := hn; clear hl hn) | ((go_at_call 9); (with_reducible refine (awakeC _).mono ?_); rintro e w3 ⟨rfl, hl⟩; replace Bg0 := Bg0.below hl; replace Bg1 := Bg1.below hl; replace HS := HS.below hl; clear hl; have kg0_1 := Bg0.at 1 rfl))
 go_cut [10] (fun sv wc => sv = .bool true ∧ Blk wc g0 26 [.int .i64 p0, .slice A1 l1.length k1, .int .u64 p2, .int .u64 p3, .int .u64 p4, .int .u64 p5, .int .u64 p6, .int .u64 p7, .int .u64 p8, .int .u64 p9] ∧ Blk wc g1 28 [.int .u64 g_0, .int .u64 g_1, .int .u64 g_2, .int .u64 g_3, .int .u64 g_4, .int .u64 g_5, .int .u64 g_6, .int .u64 g_7, .bool g_8, .bool g_9] ∧ Since w wc)
 case first =>
  go_wp2
  refine start_ (n := 8) (S := fun w' => Blk w' g0 26 [.int .i64 p0, .slice A1 l1.length k1, .int .u64 p2, .int .u64 p3, .int .u64 p4, .int .u64 p5, .int .u64 p6, .int .u64 p7, .int .u64 p8, .int .u64 p9] ∧ Blk w' g1 28 [.int .u64 g_0, .int .u64 g_1, .int .u64 g_2, .int .u64 g_3, .int .u64 g_4, .int .u64 g_5, .int .u64 g_6, .int .u64 g_7, .bool g_8, .bool g_9]) (ds := []) (bs 8 0) (by kernel_rfl) rfl rfl ⟨Bg0.drew, Bg1.drew⟩ (fun hHeld => ?_)
  generalize hWd : World.drew w3 = w4 at hHeld ⊢
  have hl : Below w3.heap.size w3 w4 := (by rw [← hWd]; exact below_drew1 (Below.refl _ _))
  clear hWd
  replace Bg0 := Bg0.below hl; replace Bg1 := Bg1.below hl; replace HS := HS.below hl; clear hl; replace kg0_1 := Bg0.at 1 rfl
  refine take_ (i := 0) (N := some 19) (v := .agg #[.int .i64 p0, .slice A1 l1.length k1, .int .u64 p2, .int .u64 p3, .int .u64 p4, .int .u64 p5, .int .u64 p6, .int .u64 p7, .int .u64 p8, .int .u64 p9]) (a' := ?_) (bs 8 1) rfl rfl (by kernel_rfl) (fun _ _ _ h => h) (Or.inl ⟨by rfl, ?_⟩) hHeld ?_ ?_
  ·rintro w' ⟨s0, s1⟩
   exact exec_seg_load 26 (.tmp 4) (by rfl) g0 0 [.int .i64 p0, .slice A1 l1.length k1, .int .u64 p2, .int .u64 p3, .int .u64 p4, .int .u64 p5, .int .u64 p6, .int .u64 p7, .int .u64 p8, .int .u64 p9] (by rfl) s0 (by rfl) Try.underlying26 (by rfl) (by kernel_rfl)
  rotate_left
  ·simp only [Act.put, zA_, z0_, z1_, i64_w, i32_w]
   rfl
  refine take_ (i := 1) (N := some 20) (v := .agg #[.int .u64 g_0, .int .u64 g_1, .int .u64 g_2, .int .u64 g_3, .int .u64 g_4, .int .u64 g_5, .int .u64 g_6, .int .u64 g_7, .bool g_8, .bool g_9]) (a' := ?_) (bs 8 3) rfl rfl (by kernel_rfl) (fun _ _ _ h => h) (Or.inl ⟨by rfl, ?_⟩) hHeld ?_ ?_
  ·rintro w' ⟨s0, s1⟩
   exact exec_seg_load 28 (.tmp 5) (by rfl) g1 0 [.int .u64 g_0, .int .u64 g_1, .int .u64 g_2, .int .u64 g_3, .int .u64 g_4, .int .u64 g_5, .int .u64 g_6, .int .u64 g_7, .bool g_8, .bool g_9] (by rfl) s1 (by rfl) Try.underlying28 (by rfl) (by kernel_rfl)
  rotate_left
  ·simp only [Act.put, zA_, z0_, z1_, i64_w, i32_w]
   rfl
  refine take_ (i := 3) (N := some 22) (v := .agg #[.int .i64 p0, .slice A1 l1.length k1, .int .u64 p2, .int .u64 p3, .int .u64 p4, .int .u64 p5, .int .u64 p6, .int .u64 p7, .int .u64 p8, .int .u64 p9]) (a' := ?_) (bs 8 11) rfl rfl (by kernel_rfl) (fun _ _ _ h => h) (Or.inl ⟨by rfl, ?_⟩) hHeld ?_ ?_
  ·rintro w' ⟨s0, s1⟩
   exact exec_seg_load 26 (.tmp 4) (by rfl) g0 0 [.int .i64 p0, .slice A1 l1.length k1, .int .u64 p2, .int .u64 p3, .int .u64 p4, .int .u64 p5, .int .u64 p6, .int .u64 p7, .int .u64 p8, .int .u64 p9] (by rfl) s0 (by rfl) Try.underlying26 (by rfl) (by kernel_rfl)
  rotate_left
  ·simp only [Act.put, zA_, z0_, z1_, i64_w, i32_w]
   rfl
  refine take_ (i := 4) (N := some 23) (v := .agg #[.int .u64 g_0, .int .u64 g_1, .int .u64 g_2, .int .u64 g_3, .int .u64 g_4, .int .u64 g_5, .int .u64 g_6, .int .u64 g_7, .bool g_8, .bool g_9]) (a' := ?_) (bs 8 27) rfl rfl (by kernel_rfl) (fun _ _ _ h => h) (Or.inl ⟨by rfl, ?_⟩) hHeld ?_ ?_
  ·rintro w' ⟨s0, s1⟩
   exact exec_seg_load 28 (.tmp 5) (by rfl) g1 0 [.int .u64 g_0, .int .u64 g_1, .int .u64 g_2, .int .u64 g_3, .int .u64 g_4, .int .u64 g_5, .int .u64 g_6, .int .u64 g_7, .bool g_8, .bool g_9] (by rfl) s1 (by rfl) Try.underlying28 (by rfl) (by kernel_rfl)
  rotate_left
  ·simp only [Act.put, zA_, z0_, z1_, i64_w, i32_w]
   rfl
  refine one_ (i := 2) (N := some 21) (bs 8 31) rfl rfl (by kernel_rfl) (by decide) (fun K hK => ?_)
  refine goes_ Try.func11 (by kernel_rfl) rfl #[.agg #[.int .i64 p0, .slice A1 l1.length k1, .int .u64 p2, .int .u64 p3, .int .u64 p4, .int .u64 p5, .int .u64 p6, .int .u64 p7, .int .u64 p8, .int .u64 p9], .agg #[.int .u64 g_0, .int .u64 g_1, .int .u64 g_2, .int .u64 g_3, .int .u64 g_4, .int .u64 g_5, .int .u64 g_6, .int .u64 g_7, .bool g_8, .bool g_9]] (by rfl) rfl rfl (by simp only [List.map_toArray, List.map_cons, List.map_nil]; rfl) ?_
  with_reducible refine (hA11 _ (Kd.C_below hr1 HS.out)).mono ?_
  rintro e w5 ⟨q11A, q11k, rfl, hk_q11A, RB_q11A, hl⟩
  refine ⟨_, rfl, ?_⟩
  replace Bg0 := Bg0.below hl; replace Bg1 := Bg1.below hl; replace HS := HS.below hl; clear hl; replace kg0_1 := Bg0.at 1 rfl
  refine hK.out _ _ ⟨Bg0, Bg1⟩ (fun hHeld => ?_)
  clear hK K
  refine norm_ (a' := ?_) ?_ ?_
  rotate_left
  ·show Act.put _ (some 21) _ = _
   simp only [Act.put, zA_, z0_, z1_, i64_w, i32_w]
   rfl
  refine one_ (i := 5) (N := some 24) (bs 8 63) rfl rfl (by kernel_rfl) (by decide) (fun K hK => ?_)
  refine goes_ Try.func12 (by kernel_rfl) rfl #[.agg #[.int .i64 p0, .slice A1 l1.length k1, .int .u64 p2, .int .u64 p3, .int .u64 p4, .int .u64 p5, .int .u64 p6, .int .u64 p7, .int .u64 p8, .int .u64 p9], .agg #[.int .u64 g_0, .int .u64 g_1, .int .u64 g_2, .int .u64 g_3, .int .u64 g_4, .int .u64 g_5, .int .u64 g_6, .int .u64 g_7, .bool g_8, .bool g_9]] (by rfl) rfl rfl (by simp only [List.map_toArray, List.map_cons, List.map_nil]; rfl) ?_
  with_reducible refine (hA12 _ (Kd.C_below hr1 HS.out)).mono ?_
  rintro e w6 ⟨q12A, q12k, rfl, hk_q12A, RB_q12A, hl⟩
  refine ⟨_, rfl, ?_⟩
  replace Bg0 := Bg0.below hl; replace Bg1 := Bg1.below hl; replace RB_q11A := RB_q11A.below hl; replace HS := HS.below hl; clear hl; replace kg0_1 := Bg0.at 1 rfl
  refine hK.out _ _ ⟨Bg0, Bg1⟩ (fun hHeld => ?_)
  clear hK K
  refine norm_ (a' := ?_) ?_ ?_
  rotate_left
  ·show Act.put _ (some 24) _ = _
   simp only [Act.put, zA_, z0_, z1_, i64_w, i32_w]
   rfl
  refine one_ (i := 6) (N := some 25) (bs 8 127) rfl rfl (by kernel_rfl) (by decide) (fun K hK => ?_)
  refine goes_ Try.func10 (by kernel_rfl) rfl #[.agg #[.int .i64 m0, .slice q11A mL.length q11k, .int .u64 m2, .int .u64 m3, .int .u64 m4, .int .u64 m5, .int .u64 m6, .int .u64 m7, .int .u64 m8, .int .u64 m9], .agg #[.int .i64 m0, .slice q12A mL.length q12k, .int .u64 m2, .int .u64 m3, .int .u64 m4, .int .u64 m5, .int .u64 m6, .int .u64 m7, .int .u64 m8, .int .u64 m9]] (by rfl) rfl rfl (by simp only [List.map_toArray, List.map_cons, List.map_nil]; rfl) ?_
  with_reducible refine (sameM_0 m0 m2 m3 m4 m5 m6 m7 m8 m9 q11A q12A q11k q12k _ mL hLM RB_q11A RB_q12A hk_q11A hk_q12A).mono ?_
  rintro e w7 ⟨rfl, hl⟩
  refine ⟨_, rfl, ?_⟩
  replace Bg0 := Bg0.below hl; replace Bg1 := Bg1.below hl; replace RB_q11A := RB_q11A.below hl; replace RB_q12A := RB_q12A.below hl; replace HS := HS.below hl; clear hl; replace kg0_1 := Bg0.at 1 rfl
  refine hK.out _ _ ⟨Bg0, Bg1⟩ (fun hHeld => ?_)
  clear hK K
  refine norm_ (a' := ?_) ?_ ?_
  rotate_left
  ·show Act.put _ (some 25) _ = _
   simp only [Act.put, zA_, z0_, z1_, i64_w, i32_w]
   rfl
  refine pure_ (i := 7) (N := some 10) (v := ?_) (a' := ?_) (bs 8 255) rfl rfl (by kernel_rfl) (fun _ _ _ h => h) (Or.inl ⟨by rfl, ?_⟩) ?_ ?_
  rotate_left
  ·intro w'
   go_simp
   with_reducible rfl
  rotate_left
  ·simp only [Act.put, zA_, z0_, z1_, i64_w, i32_w]
   rfl
  refine done_ (by kernel_rfl) ?_
  clear kg0_1
  all_goals go_wp2
  all_goals go_meet
  all_goals exact ⟨by first | rfl | (simp; done), Bg0, Bg1, HS⟩
 clear kg0_1 Bg0 Bg1 HS
 obtain ⟨rfl, Bg0, Bg1, HS⟩ := hcut
 go_upto_region 5 with (fail)
 go_cut [11] (fun sv wc => sv = .bool true ∧ Blk wc g0 26 [.int .i64 p0, .slice A1 l1.length k1, .int .u64 p2, .int .u64 p3, .int .u64 p4, .int .u64 p5, .int .u64 p6, .int .u64 p7, .int .u64 p8, .int .u64 p9] ∧ Blk wc g1 28 [.int .u64 g_0, .int .u64 g_1, .int .u64 g_2, .int .u64 g_3, .int .u64 g_4, .int .u64 g_5, .int .u64 g_6, .int .u64 g_7, .bool g_8, .bool g_9] ∧ Since w wc)
 case first =>
  go_wp2
  refine start_ (n := 8) (S := fun w' => Blk w' g0 26 [.int .i64 p0, .slice A1 l1.length k1, .int .u64 p2, .int .u64 p3, .int .u64 p4, .int .u64 p5, .int .u64 p6, .int .u64 p7, .int .u64 p8, .int .u64 p9]) (ds := []) (bs 8 0) (by kernel_rfl) rfl rfl Bg0.drew (fun hHeld => ?_)
  generalize hWd : World.drew wc = w8 at hHeld ⊢
  have hl : Below wc.heap.size wc w8 := (by rw [← hWd]; exact below_drew1 (Below.refl _ _))
  clear hWd
  replace Bg0 := Bg0.below hl; replace Bg1 := Bg1.below hl; replace HS := HS.below hl; clear hl
  refine pu 1 27 (.int .u64 fl) 2 rfl rfl (by kernel_rfl) (fun _ _ _ h => h) (by rfl) (fun _ => by kernel_rfl) rfl ?_
  refine pu 4 30 (.int .u64 fl) 18 rfl rfl (by kernel_rfl) (fun _ _ _ h => h) (by rfl) (fun _ => by kernel_rfl) rfl ?_
  refine norm_ (a' := ?_) ?_ ?_
  rotate_left
  ·simp only [Act.put, zA_, z0_, z1_, i64_w, i32_w]
   rfl
  refine take_ (i := 0) (N := some 26) (v := .agg #[.int .i64 p0, .slice A1 l1.length k1, .int .u64 p2, .int .u64 p3, .int .u64 p4, .int .u64 p5, .int .u64 p6, .int .u64 p7, .int .u64 p8, .int .u64 p9]) (a' := ?_) (bs 8 19) rfl rfl (by kernel_rfl) (fun _ _ _ h => h) (Or.inl ⟨by rfl, ?_⟩) hHeld ?_ ?_
  ·intro w' s0
   exact exec_seg_load 26 (.tmp 4) (by rfl) g0 0 [.int .i64 p0, .slice A1 l1.length k1, .int .u64 p2, .int .u64 p3, .int .u64 p4, .int .u64 p5, .int .u64 p6, .int .u64 p7, .int .u64 p8, .int .u64 p9] (by rfl) s0 (by rfl) Try.underlying26 (by rfl) (by kernel_rfl)
  rotate_left
  ·simp only [Act.put, zA_, z0_, z1_, i64_w, i32_w]
   rfl
  refine take_ (i := 3) (N := some 29) (v := .agg #[.int .i64 p0, .slice A1 l1.length k1, .int .u64 p2, .int .u64 p3, .int .u64 p4, .int .u64 p5, .int .u64 p6, .int .u64 p7, .int .u64 p8, .int .u64 p9]) (a' := ?_) (bs 8 27) rfl rfl (by kernel_rfl) (fun _ _ _ h => h) (Or.inl ⟨by rfl, ?_⟩) hHeld ?_ ?_
  ·intro w' s0
   exact exec_seg_load 26 (.tmp 4) (by rfl) g0 0 [.int .i64 p0, .slice A1 l1.length k1, .int .u64 p2, .int .u64 p3, .int .u64 p4, .int .u64 p5, .int .u64 p6, .int .u64 p7, .int .u64 p8, .int .u64 p9] (by rfl) s0 (by rfl) Try.underlying26 (by rfl) (by kernel_rfl)
  rotate_left
  ·simp only [Act.put, zA_, z0_, z1_, i64_w, i32_w]
   rfl
  refine one_ (i := 2) (N := some 28) (bs 8 31) rfl rfl (by kernel_rfl) (by decide) (fun K hK => ?_)
  refine goes_ Try.func13 (by kernel_rfl) rfl #[.agg #[.int .i64 p0, .slice A1 l1.length k1, .int .u64 p2, .int .u64 p3, .int .u64 p4, .int .u64 p5, .int .u64 p6, .int .u64 p7, .int .u64 p8, .int .u64 p9], .int .u64 fl] (by rfl) rfl rfl (by simp only [List.map_toArray, List.map_cons, List.map_nil]; rfl) ?_
  with_reducible refine (lossP_0 p0 p2 p3 p4 p5 p6 p7 p8 p9 fl A1 l1.length k1 Wfl _).mono ?_
  rintro e w9 ⟨rfl, hl⟩
  refine ⟨_, rfl, ?_⟩
  replace Bg0 := Bg0.below hl; replace Bg1 := Bg1.below hl; replace HS := HS.below hl; clear hl
  refine hK.out _ _ Bg0 (fun hHeld => ?_)
  clear hK K
  refine norm_ (a' := ?_) ?_ ?_
  rotate_left
  ·show Act.put _ (some 28) _ = _
   simp only [Act.put, zA_, z0_, z1_, i64_w, i32_w]
   rfl
  refine one_ (i := 5) (N := some 31) (bs 8 63) rfl rfl (by kernel_rfl) (by decide) (fun K hK => ?_)
  refine goes_ Try.func14 (by kernel_rfl) rfl #[.agg #[.int .i64 p0, .slice A1 l1.length k1, .int .u64 p2, .int .u64 p3, .int .u64 p4, .int .u64 p5, .int .u64 p6, .int .u64 p7, .int .u64 p8, .int .u64 p9], .int .u64 fl] (by rfl) rfl rfl (by simp only [List.map_toArray, List.map_cons, List.map_nil]; rfl) ?_
  with_reducible refine (lossRC p0 p2 p3 p4 p5 p6 p7 p8 p9 fl A1 l1.length k1 Wfl _).mono ?_
  rintro e w10 ⟨rfl, hl⟩
  refine ⟨_, rfl, ?_⟩
  replace Bg0 := Bg0.below hl; replace Bg1 := Bg1.below hl; replace HS := HS.below hl; clear hl
  refine hK.out _ _ Bg0 (fun hHeld => ?_)
  clear hK K
  refine norm_ (a' := ?_) ?_ ?_
  rotate_left
  ·show Act.put _ (some 31) _ = _
   simp only [Act.put, zA_, z0_, z1_, i64_w, i32_w]
   rfl
  refine one_ (i := 6) (N := some 32) (bs 8 127) rfl rfl (by kernel_rfl) (by decide) (fun K hK => ?_)
  refine goes_ Try.func10 (by kernel_rfl) rfl #[.agg #[.int .i64 p0, .slice A1 l1.length k1, .int .u64 p2, .int .u64 p3, .int .u64 p4, .int .u64 p5, .int .u64 p6, .int .u64 p7, .int .u64 p8, .int .u64 (min p9 (uHeld (uMulDiv fl 7 10)))], .agg #[.int .i64 p0, .slice A1 l1.length k1, .int .u64 p2, .int .u64 p3, .int .u64 p4, .int .u64 p5, .int .u64 p6, .int .u64 p7, .int .u64 p8, .int .u64 (min p9 (uHeld (uMulDiv fl 7 10)))]] (by rfl) rfl rfl (by simp only [List.map_toArray, List.map_cons, List.map_nil]; rfl) ?_
  with_reducible refine (sameM_0 p0 p2 p3 p4 p5 p6 p7 p8 (min p9 (uHeld (uMulDiv fl 7 10))) A1 A1 k1 k1 _ l1 hL1 ⟨Kd.C_below hr1 HS.out⟩ ⟨Kd.C_below hr1 HS.out⟩ hk1 hk1).mono ?_
  rintro e w11 ⟨rfl, hl⟩
  refine ⟨_, rfl, ?_⟩
  replace Bg0 := Bg0.below hl; replace Bg1 := Bg1.below hl; replace HS := HS.below hl; clear hl
  refine hK.out _ _ Bg0 (fun hHeld => ?_)
  clear hK K
  refine norm_ (a' := ?_) ?_ ?_
  rotate_left
  ·show Act.put _ (some 32) _ = _
   simp only [Act.put, zA_, z0_, z1_, i64_w, i32_w]
   rfl
  refine pure_ (i := 7) (N := some 11) (v := ?_) (a' := ?_) (bs 8 255) rfl rfl (by kernel_rfl) (fun _ _ _ h => h) (Or.inl ⟨by rfl, ?_⟩) ?_ ?_
  rotate_left
  ·intro w'
   go_simp
   with_reducible rfl
  rotate_left
  ·simp only [Act.put, zA_, z0_, z1_, i64_w, i32_w]
   rfl
  refine done_ (by kernel_rfl) ?_
  all_goals go_wp2
  all_goals go_meet
  all_goals exact ⟨by first | rfl | (simp; done), Bg0, Bg1, HS⟩
 clear Bg0 Bg1 HS
 obtain ⟨rfl, Bg0, Bg1, HS⟩ := hcut
 go_wp2_with (first | ((go_at_call 15); (with_reducible refine (newP_0 fl _).mono ?_); rintro e w12 ⟨rfl, hl⟩; replace Bg0 := Bg0.below hl; replace Bg1 := Bg1.below hl; replace HS := HS.below hl; clear hl) | ((go_at_call 16); (with_reducible refine (newR_0 fl _).mono ?_); rintro e w13 ⟨rfl, hl⟩; replace Bg0 := Bg0.below hl; replace Bg1 := Bg1.below hl; replace HS := HS.below hl; clear hl) | ((go_at_call 10); (refine (show Calls Try.prog 10 #[.agg #[.int .i64 0, .slice none 0 0, .int .u64 18446744073709551615, .int .u64 fl, .int .u64 0, .int .u64 0, .int .u64 0, .int .u64 0, .int .u64 fl, .int .u64 16777216], .agg #[.int .i64 0, .slice none 0 0, .int .u64 18446744073709551615, .int .u64 fl, .int .u64 0, .int .u64 0, .int .u64 0, .int .u64 0, .int .u64 fl, .int .u64 16777216]] _ _ from sameM_0 0 18446744073709551615 fl 0 0 0 0 fl 16777216 none none 0 0 _ [] (by decide) ⟨Kd.C_nil k52 _⟩ ⟨Kd.C_nil k52 _⟩ (Nat.le_refl 0) (Nat.le_refl 0)).mono ?_); rintro e w14 ⟨rfl, hl⟩; replace Bg0 := Bg0.below hl; replace Bg1 := Bg1.below hl; replace HS := HS.below hl; clear hl))
 refine start_ (n := 34) (S := fun w' => Blk w' g0 26 [.int .i64 p0, .slice A1 l1.length k1, .int .u64 p2, .int .u64 p3, .int .u64 p4, .int .u64 p5, .int .u64 p6, .int .u64 p7, .int .u64 p8, .int .u64 p9]) (ds := []) (bs 34 0) (by kernel_rfl) rfl rfl Bg0.drew (fun hHeld => ?_)
 generalize hWd : World.drew w14 = w15 at hHeld ⊢
 have hl : Below w14.heap.size w14 w15 := (by rw [← hWd]; exact below_drew1 (Below.refl _ _))
 clear hWd
 replace Bg0 := Bg0.below hl; replace Bg1 := Bg1.below hl; replace HS := HS.below hl; clear hl
 refine pure_ (i := 0) (N := some 38) (v := ?_) (a' := ?_) (bs 34 1) rfl rfl (by kernel_rfl) (fun _ _ _ h => h) (Or.inl ⟨by rfl, ?_⟩) ?_ ?_
 rotate_left
 ·intro w'
  go_simp
  with_reducible rfl
 rotate_left
 ·simp only [Act.put, zA_, z0_, z1_, i64_w, i32_w]
  rfl
 refine pure_ (i := 1) (N := some 39) (v := ?_) (a' := ?_) (bs 34 3) rfl rfl (by kernel_rfl) (fun _ _ _ h => h) (Or.inl ⟨by rfl, ?_⟩) ?_ ?_
 rotate_left
 ·intro w'
  go_simp
  with_reducible rfl
 rotate_left
 ·simp only [Act.put, zA_, z0_, z1_, i64_w, i32_w]
  rfl
 refine pure_ (i := 2) (N := some 40) (v := ?_) (a' := ?_) (bs 34 7) rfl rfl (by kernel_rfl) (fun _ _ _ h => h) (Or.inl ⟨by rfl, ?_⟩) ?_ ?_
 rotate_left
 ·intro w'
  go_simp
  with_reducible rfl
 rotate_left
 ·simp only [Act.put, zA_, z0_, z1_, i64_w, i32_w]
  rfl
 refine pure_ (i := 3) (N := some 41) (v := ?_) (a' := ?_) (bs 34 15) rfl rfl (by kernel_rfl) (fun _ _ _ h => h) (Or.inl ⟨by rfl, ?_⟩) ?_ ?_
 rotate_left
 ·intro w'
  go_simp
  with_reducible rfl
 rotate_left
 ·simp only [Act.put, zA_, z0_, z1_, i64_w, i32_w]
  rfl
 refine pure_ (i := 4) (N := some 42) (v := ?_) (a' := ?_) (bs 34 31) rfl rfl (by kernel_rfl) (fun _ _ _ h => h) (Or.inl ⟨by rfl, ?_⟩) ?_ ?_
 rotate_left
 ·intro w'
  go_simp
  with_reducible rfl
 rotate_left
 ·simp only [Act.put, zA_, z0_, z1_, i64_w, i32_w]
  rfl
 refine pure_ (i := 5) (N := some 43) (v := ?_) (a' := ?_) (bs 34 63) rfl rfl (by kernel_rfl) (fun _ _ _ h => h) (Or.inl ⟨by rfl, ?_⟩) ?_ ?_
 rotate_left
 ·intro w'
  go_simp
  with_reducible rfl
 rotate_left
 ·simp only [Act.put, zA_, z0_, z1_, i64_w, i32_w]
  rfl
 refine pure_ (i := 6) (N := some 44) (v := ?_) (a' := ?_) (bs 34 127) rfl rfl (by kernel_rfl) (fun _ _ _ h => h) (Or.inl ⟨by rfl, ?_⟩) ?_ ?_
 rotate_left
 ·intro w'
  go_simp
  with_reducible rfl
 rotate_left
 ·simp only [Act.put, zA_, z0_, z1_, i64_w, i32_w]
  rfl
 refine pure_ (i := 7) (N := some 45) (v := ?_) (a' := ?_) (bs 34 255) rfl rfl (by kernel_rfl) (fun _ _ _ h => h) (Or.inl ⟨by rfl, ?_⟩) ?_ ?_
 rotate_left
 ·intro w'
  go_simp
  with_reducible rfl
 rotate_left
 ·simp only [Act.put, zA_, z0_, z1_, i64_w, i32_w]
  rfl
 refine pure_ (i := 8) (N := some 46) (v := ?_) (a' := ?_) (bs 34 511) rfl rfl (by kernel_rfl) (fun _ _ _ h => h) (Or.inl ⟨by rfl, ?_⟩) ?_ ?_
 rotate_left
 ·intro w'
  go_simp
  with_reducible rfl
 rotate_left
 ·simp only [Act.put, zA_, z0_, z1_, i64_w, i32_w]
  rfl
 refine pure_ (i := 9) (N := some 47) (v := ?_) (a' := ?_) (bs 34 1023) rfl rfl (by kernel_rfl) (fun _ _ _ h => h) (Or.inl ⟨by rfl, ?_⟩) ?_ ?_
 rotate_left
 ·intro w'
  go_simp
  with_reducible rfl
 rotate_left
 ·simp only [Act.put, zA_, z0_, z1_, i64_w, i32_w]
  rfl
 refine pure_ (i := 10) (N := some 48) (v := ?_) (a' := ?_) (bs 34 2047) rfl rfl (by kernel_rfl) (fun _ _ _ h => h) (Or.inl ⟨by rfl, ?_⟩) ?_ ?_
 rotate_left
 ·intro w'
  go_simp
  with_reducible rfl
 rotate_left
 ·simp only [Act.put, zA_, z0_, z1_, i64_w, i32_w]
  rfl
 refine pu 12 50 (.int .u64 parts) 6143 rfl rfl (by kernel_rfl) (fun _ _ _ h => h) (by rfl) (fun _ => by kernel_rfl) rfl ?_
 refine pu 15 53 (.int .u64 parts) 38911 rfl rfl (by kernel_rfl) (fun _ _ _ h => h) (by rfl) (fun _ => by kernel_rfl) rfl ?_
 refine norm_ (a' := ?_) ?_ ?_
 rotate_left
 ·simp only [Act.put, zA_, z0_, z1_, i64_w, i32_w]
  rfl
 refine take_ (i := 11) (N := some 49) (v := .agg #[.int .i64 p0, .slice A1 l1.length k1, .int .u64 p2, .int .u64 p3, .int .u64 p4, .int .u64 p5, .int .u64 p6, .int .u64 p7, .int .u64 p8, .int .u64 p9]) (a' := ?_) (bs 34 40959) rfl rfl (by kernel_rfl) (fun _ _ _ h => h) (Or.inl ⟨by rfl, ?_⟩) hHeld ?_ ?_
 ·intro w' s0
  exact exec_seg_load 26 (.tmp 4) (by rfl) g0 0 [.int .i64 p0, .slice A1 l1.length k1, .int .u64 p2, .int .u64 p3, .int .u64 p4, .int .u64 p5, .int .u64 p6, .int .u64 p7, .int .u64 p8, .int .u64 p9] (by rfl) s0 (by rfl) Try.underlying26 (by rfl) (by kernel_rfl)
 rotate_left
 ·simp only [Act.put, zA_, z0_, z1_, i64_w, i32_w]
  rfl
 refine take_ (i := 14) (N := some 52) (v := .agg #[.int .i64 p0, .slice A1 l1.length k1, .int .u64 p2, .int .u64 p3, .int .u64 p4, .int .u64 p5, .int .u64 p6, .int .u64 p7, .int .u64 p8, .int .u64 p9]) (a' := ?_) (bs 34 57343) rfl rfl (by kernel_rfl) (fun _ _ _ h => h) (Or.inl ⟨by rfl, ?_⟩) hHeld ?_ ?_
 ·intro w' s0
  exact exec_seg_load 26 (.tmp 4) (by rfl) g0 0 [.int .i64 p0, .slice A1 l1.length k1, .int .u64 p2, .int .u64 p3, .int .u64 p4, .int .u64 p5, .int .u64 p6, .int .u64 p7, .int .u64 p8, .int .u64 p9] (by rfl) s0 (by rfl) Try.underlying26 (by rfl) (by kernel_rfl)
 rotate_left
 ·simp only [Act.put, zA_, z0_, z1_, i64_w, i32_w]
  rfl
 refine one_ (i := 13) (N := some 51) (bs 34 65535) rfl rfl (by kernel_rfl) (by decide) (fun K hK => ?_)
 refine goes_ Try.func17 (by kernel_rfl) rfl #[.agg #[.int .i64 p0, .slice A1 l1.length k1, .int .u64 p2, .int .u64 p3, .int .u64 p4, .int .u64 p5, .int .u64 p6, .int .u64 p7, .int .u64 p8, .int .u64 p9], .int .u64 parts] (by rfl) rfl rfl (by simp only [List.map_toArray, List.map_cons, List.map_nil]; rfl) ?_
 with_reducible refine (prodC p0 p2 p3 p4 p5 p6 p7 p8 p9 parts A1 k1 l1 hw1 Wp2 Wparts _ (Kd.C_below hr1 HS.out) hk1).mono ?_
 rintro e w16 ⟨rfl, hl⟩
 refine ⟨_, rfl, ?_⟩
 replace Bg0 := Bg0.below hl; replace Bg1 := Bg1.below hl; replace HS := HS.below hl; clear hl
 refine hK.out _ _ Bg0 (fun hHeld => ?_)
 clear hK K
 refine norm_ (a' := ?_) ?_ ?_
 rotate_left
 ·show Act.put _ (some 51) _ = _
  simp only [Act.put, zA_, z0_, z1_, i64_w, i32_w]
  rfl
 refine one_ (i := 16) (N := some 54) (bs 34 131071) rfl rfl (by kernel_rfl) (by decide) (fun K hK => ?_)
 refine goes_ Try.func18 (by kernel_rfl) rfl #[.agg #[.int .i64 p0, .slice A1 l1.length k1, .int .u64 p2, .int .u64 p3, .int .u64 p4, .int .u64 p5, .int .u64 p6, .int .u64 p7, .int .u64 p8, .int .u64 p9], .int .u64 parts] (by rfl) rfl rfl (by simp only [List.map_toArray, List.map_cons, List.map_nil]; rfl) ?_
 with_reducible refine (rprodC p0 p2 p3 p4 p5 p6 p7 p8 p9 parts A1 k1 l1 hw1 Wp2 Wparts _ (Kd.C_below hr1 HS.out) hk1).mono ?_
 rintro e w17 ⟨rfl, hl⟩
 refine ⟨_, rfl, ?_⟩
 replace Bg0 := Bg0.below hl; replace Bg1 := Bg1.below hl; replace HS := HS.below hl; clear hl
 refine hK.out _ _ Bg0 (fun hHeld => ?_)
 clear hK K
 refine norm_ (a' := ?_) ?_ ?_
 rotate_left
 ·show Act.put _ (some 54) _ = _
  simp only [Act.put, zA_, z0_, z1_, i64_w, i32_w]
  rfl
 refine pure_ (i := 17) (N := some 55) (v := ?_) (a' := ?_) (bs 34 262143) rfl rfl (by kernel_rfl) (fun _ _ _ h => h) (Or.inl ⟨by rfl, ?_⟩) ?_ ?_
 rotate_left
 ·intro w'
  go_simp
  with_reducible rfl
 rotate_left
 ·simp only [Act.put, zA_, z0_, z1_, i64_w, i32_w]
  rfl
 refine pure_ (i := 18) (N := some 56) (v := ?_) (a' := ?_) (bs 34 524287) rfl rfl (by kernel_rfl) (fun _ _ _ h => h) (Or.inl ⟨by rfl, ?_⟩) ?_ ?_
 rotate_left
 ·intro w'
  go_simp
  with_reducible rfl
 rotate_left
 ·simp only [Act.put, zA_, z0_, z1_, i64_w, i32_w]
  rfl
 refine pure_ (i := 19) (N := some 57) (v := ?_) (a' := ?_) (bs 34 1048575) rfl rfl (by kernel_rfl) (fun _ _ _ h => h) (Or.inl ⟨by rfl, ?_⟩) ?_ ?_
 rotate_left
 ·intro w'
  go_simp
  with_reducible rfl
 rotate_left
 ·simp only [Act.put, zA_, z0_, z1_, i64_w, i32_w]
  rfl
 refine take_ (i := 20) (N := some 58) (v := .agg #[.int .i64 p0, .slice A1 l1.length k1, .int .u64 p2, .int .u64 p3, .int .u64 p4, .int .u64 p5, .int .u64 p6, .int .u64 p7, .int .u64 p8, .int .u64 p9]) (a' := ?_) (bs 34 2097151) rfl rfl (by kernel_rfl) (fun _ _ _ h => h) (Or.inl ⟨by rfl, ?_⟩) hHeld ?_ ?_
 ·intro w' s0
  exact exec_seg_load 26 (.tmp 4) (by rfl) g0 0 [.int .i64 p0, .slice A1 l1.length k1, .int .u64 p2, .int .u64 p3, .int .u64 p4, .int .u64 p5, .int .u64 p6, .int .u64 p7, .int .u64 p8, .int .u64 p9] (by rfl) s0 (by rfl) Try.underlying26 (by rfl) (by kernel_rfl)
 rotate_left
 ·simp only [Act.put, zA_, z0_, z1_, i64_w, i32_w]
  rfl
 refine take_ (i := 22) (N := some 60) (v := .agg #[.int .i64 p0, .slice A1 l1.length k1, .int .u64 p2, .int .u64 p3, .int .u64 p4, .int .u64 p5, .int .u64 p6, .int .u64 p7, .int .u64 p8, .int .u64 p9]) (a' := ?_) (bs 34 6291455) rfl rfl (by kernel_rfl) (fun _ _ _ h => h) (Or.inl ⟨by rfl, ?_⟩) hHeld ?_ ?_
 ·intro w' s0
  exact exec_seg_load 26 (.tmp 4) (by rfl) g0 0 [.int .i64 p0, .slice A1 l1.length k1, .int .u64 p2, .int .u64 p3, .int .u64 p4, .int .u64 p5, .int .u64 p6, .int .u64 p7, .int .u64 p8, .int .u64 p9] (by rfl) s0 (by rfl) Try.underlying26 (by rfl) (by kernel_rfl)
 rotate_left
 ·simp only [Act.put, zA_, z0_, z1_, i64_w, i32_w]
  rfl
 refine one_ (i := 21) (N := some 59) (bs 34 8388607) rfl rfl (by kernel_rfl) (by decide) (fun K hK => ?_)
 refine goes_ Try.func19 (by kernel_rfl) rfl #[.agg #[.int .i64 p0, .slice A1 l1.length k1, .int .u64 p2, .int .u64 p3, .int .u64 p4, .int .u64 p5, .int .u64 p6, .int .u64 p7, .int .u64 p8, .int .u64 p9]] (by rfl) rfl rfl (by simp only [List.map_toArray, List.map_cons, List.map_nil]; rfl) ?_
 with_reducible refine (winPC p0 p2 p3 p4 p5 p6 p7 p8 p9 A1 k1 l1 hw1 Wp2 Wp9 _ (Kd.C_below hr1 HS.out) hk1).mono ?_
 rintro e w18 ⟨rfl, hl⟩
 refine ⟨_, rfl, ?_⟩
 replace Bg0 := Bg0.below hl; replace Bg1 := Bg1.below hl; replace HS := HS.below hl; clear hl
 refine hK.out _ _ Bg0 (fun hHeld => ?_)
 clear hK K
 refine norm_ (a' := ?_) ?_ ?_
 rotate_left
 ·show Act.put _ (some 59) _ = _
  simp only [Act.put, zA_, z0_, z1_, i64_w, i32_w]
  rfl
 refine one_ (i := 23) (N := some 61) (bs 34 16777215) rfl rfl (by kernel_rfl) (by decide) (fun K hK => ?_)
 refine goes_ Try.func20 (by kernel_rfl) rfl #[.agg #[.int .i64 p0, .slice A1 l1.length k1, .int .u64 p2, .int .u64 p3, .int .u64 p4, .int .u64 p5, .int .u64 p6, .int .u64 p7, .int .u64 p8, .int .u64 p9]] (by rfl) rfl rfl (by simp only [List.map_toArray, List.map_cons, List.map_nil]; rfl) ?_
 with_reducible refine (winRC p0 p2 p3 p4 p5 p6 p7 p8 p9 A1 k1 l1 hw1 Wp2 Wp9 _ (Kd.C_below hr1 HS.out) hk1).mono ?_
 rintro e w19 ⟨rfl, hl⟩
 refine ⟨_, rfl, ?_⟩
 replace Bg0 := Bg0.below hl; replace Bg1 := Bg1.below hl; replace HS := HS.below hl; clear hl
 refine hK.out _ _ Bg0 (fun hHeld => ?_)
 clear hK K
 refine norm_ (a' := ?_) ?_ ?_
 rotate_left
 ·show Act.put _ (some 61) _ = _
  simp only [Act.put, zA_, z0_, z1_, i64_w, i32_w]
  rfl
 refine pure_ (i := 24) (N := some 62) (v := ?_) (a' := ?_) (bs 34 33554431) rfl rfl (by kernel_rfl) (fun _ _ _ h => h) (Or.inl ⟨by rfl, ?_⟩) ?_ ?_
 rotate_left
 ·intro w'
  go_simp
  with_reducible rfl
 rotate_left
 ·simp only [Act.put, zA_, z0_, z1_, i64_w, i32_w]
  rfl
 refine pure_ (i := 25) (N := some 63) (v := ?_) (a' := ?_) (bs 34 67108863) rfl rfl (by kernel_rfl) (fun _ _ _ h => h) (Or.inl ⟨by rfl, ?_⟩) ?_ ?_
 rotate_left
 ·intro w'
  go_simp
  with_reducible rfl
 rotate_left
 ·simp only [Act.put, zA_, z0_, z1_, i64_w, i32_w]
  rfl
 refine pure_ (i := 26) (N := some 64) (v := ?_) (a' := ?_) (bs 34 134217727) rfl rfl (by kernel_rfl) (fun _ _ _ h => h) (Or.inl ⟨by rfl, ?_⟩) ?_ ?_
 rotate_left
 ·intro w'
  go_simp
  with_reducible rfl
 rotate_left
 ·simp only [Act.put, zA_, z0_, z1_, i64_w, i32_w]
  rfl
 refine take_ (i := 27) (N := some 65) (v := .agg #[.int .i64 p0, .slice A1 l1.length k1, .int .u64 p2, .int .u64 p3, .int .u64 p4, .int .u64 p5, .int .u64 p6, .int .u64 p7, .int .u64 p8, .int .u64 p9]) (a' := ?_) (bs 34 268435455) rfl rfl (by kernel_rfl) (fun _ _ _ h => h) (Or.inl ⟨by rfl, ?_⟩) hHeld ?_ ?_
 ·intro w' s0
  exact exec_seg_load 26 (.tmp 4) (by rfl) g0 0 [.int .i64 p0, .slice A1 l1.length k1, .int .u64 p2, .int .u64 p3, .int .u64 p4, .int .u64 p5, .int .u64 p6, .int .u64 p7, .int .u64 p8, .int .u64 p9] (by rfl) s0 (by rfl) Try.underlying26 (by rfl) (by kernel_rfl)
 rotate_left
 ·simp only [Act.put, zA_, z0_, z1_, i64_w, i32_w]
  rfl
 refine take_ (i := 29) (N := some 67) (v := .agg #[.int .i64 p0, .slice A1 l1.length k1, .int .u64 p2, .int .u64 p3, .int .u64 p4, .int .u64 p5, .int .u64 p6, .int .u64 p7, .int .u64 p8, .int .u64 p9]) (a' := ?_) (bs 34 805306367) rfl rfl (by kernel_rfl) (fun _ _ _ h => h) (Or.inl ⟨by rfl, ?_⟩) hHeld ?_ ?_
 ·intro w' s0
  exact exec_seg_load 26 (.tmp 4) (by rfl) g0 0 [.int .i64 p0, .slice A1 l1.length k1, .int .u64 p2, .int .u64 p3, .int .u64 p4, .int .u64 p5, .int .u64 p6, .int .u64 p7, .int .u64 p8, .int .u64 p9] (by rfl) s0 (by rfl) Try.underlying26 (by rfl) (by kernel_rfl)
 rotate_left
 ·simp only [Act.put, zA_, z0_, z1_, i64_w, i32_w]
  rfl
 refine one_ (i := 28) (N := some 66) (bs 34 1073741823) rfl rfl (by kernel_rfl) (by decide) (fun K hK => ?_)
 refine goes_ Try.func21 (by kernel_rfl) rfl #[.agg #[.int .i64 p0, .slice A1 l1.length k1, .int .u64 p2, .int .u64 p3, .int .u64 p4, .int .u64 p5, .int .u64 p6, .int .u64 p7, .int .u64 p8, .int .u64 p9]] (by rfl) rfl rfl (by simp only [List.map_toArray, List.map_cons, List.map_nil]; rfl) ?_
 with_reducible refine (rateC p0 p2 p3 p4 p5 p6 p7 p8 p9 A1 k1 l1 hw1 Wp7 _ (Kd.C_below hr1 HS.out) hk1).mono ?_
 rintro e w20 ⟨rfl, hl⟩
 refine ⟨_, rfl, ?_⟩
 replace Bg0 := Bg0.below hl; replace Bg1 := Bg1.below hl; replace HS := HS.below hl; clear hl
 refine hK.out _ _ Bg0 (fun hHeld => ?_)
 clear hK K
 refine norm_ (a' := ?_) ?_ ?_
 rotate_left
 ·show Act.put _ (some 66) _ = _
  simp only [Act.put, zA_, z0_, z1_, i64_w, i32_w]
  rfl
 refine one_ (i := 30) (N := some 68) (bs 34 2147483647) rfl rfl (by kernel_rfl) (by decide) (fun K hK => ?_)
 refine goes_ Try.func22 (by kernel_rfl) rfl #[.agg #[.int .i64 p0, .slice A1 l1.length k1, .int .u64 p2, .int .u64 p3, .int .u64 p4, .int .u64 p5, .int .u64 p6, .int .u64 p7, .int .u64 p8, .int .u64 p9]] (by rfl) rfl rfl (by simp only [List.map_toArray, List.map_cons, List.map_nil]; rfl) ?_
 with_reducible refine (rateRC p0 p2 p3 p4 p5 p6 p7 p8 p9 A1 k1 l1 hw1 Wp7 _ (Kd.C_below hr1 HS.out) hk1).mono ?_
 rintro e w21 ⟨rfl, hl⟩
 refine ⟨_, rfl, ?_⟩
 replace Bg0 := Bg0.below hl; replace Bg1 := Bg1.below hl; replace HS := HS.below hl; clear hl
 refine hK.out _ _ Bg0 (fun hHeld => ?_)
 clear hK K
 refine norm_ (a' := ?_) ?_ ?_
 rotate_left
 ·show Act.put _ (some 68) _ = _
  simp only [Act.put, zA_, z0_, z1_, i64_w, i32_w]
  rfl
 refine pure_ (i := 31) (N := some 69) (v := ?_) (a' := ?_) (bs 34 4294967295) rfl rfl (by kernel_rfl) (fun _ _ _ h => h) (Or.inl ⟨by rfl, ?_⟩) ?_ ?_
 rotate_left
 ·intro w'
  go_simp
  with_reducible rfl
 rotate_left
 ·simp only [Act.put, zA_, z0_, z1_, i64_w, i32_w]
  rfl
 refine pure_ (i := 32) (N := some 70) (v := ?_) (a' := ?_) (bs 34 8589934591) rfl rfl (by kernel_rfl) (fun _ _ _ h => h) (Or.inl ⟨by rfl, ?_⟩) ?_ ?_
 rotate_left
 ·intro w'
  go_simp
  with_reducible rfl
 rotate_left
 ·simp only [Act.put, zA_, z0_, z1_, i64_w, i32_w]
  rfl
 refine pure_ (i := 33) (N := some 8) (v := ?_) (a' := ?_) (bs 34 17179869183) rfl rfl (by kernel_rfl) (fun _ _ _ h => h) (Or.inl ⟨by rfl, ?_⟩) ?_ ?_
 rotate_left
 ·intro w'
  go_simp
  with_reducible rfl
 rotate_left
 ·simp only [Act.put, zA_, z0_, z1_, i64_w, i32_w]
  rfl
 refine done_ (by kernel_rfl) ?_
 go_wp2
 all_goals (go_ret; exact ⟨by first | rfl | (simp; done), HS.out⟩)
theorem wf64_ {a : Int} (h : (Lit.int .u64 a).wf = true) : W64 a := by simpa [Lit.wf, IntKind.min, IntKind.max, IntKind.bits, IntKind.signed] using h
theorem tells_law (p0 : Int) (A1 : Option Addr) (k1 : Nat) (l1 : List S52) (p2 p3 p4 p5 p6 p7 p8 p9 : Int) (g_0 g_1 g_2 g_3 g_4 g_5 g_6 g_7 : Int) (g_8 g_9 : Bool) (fl parts : Int) (v0 : (Lit.int .i64 p0).wf = true) (x1 : ∀ x ∈ l1, WfS52 x) (vp2 : (Lit.int .u64 p2).wf = true) (vp3 : (Lit.int .u64 p3).wf = true) (vp4 : (Lit.int .u64 p4).wf = true) (vp5 : (Lit.int .u64 p5).wf = true) (vp6 : (Lit.int .u64 p6).wf = true) (vp7 : (Lit.int .u64 p7).wf = true) (vp8 : (Lit.int .u64 p8).wf = true) (vp9 : (Lit.int .u64 p9).wf = true) (vg_0 : (Lit.int .u64 g_0).wf = true) (vg_1 : (Lit.int .u64 g_1).wf = true) (vg_2 : (Lit.int .u64 g_2).wf = true) (vg_3 : (Lit.int .u64 g_3).wf = true) (vg_4 : (Lit.int .u64 g_4).wf = true) (vg_5 : (Lit.int .u64 g_5).wf = true) (vg_6 : (Lit.int .u64 g_6).wf = true) (vg_7 : (Lit.int .u64 g_7).wf = true) (vfl : (Lit.int .u64 fl).wf = true) (vparts : (Lit.int .u64 parts).wf = true) (w : World) (hr1 : Kd.C k52 w A1 l1.length l1) (hk1 : l1.length ≤ k1) :
  Calls Try.prog 4 #[.agg #[.int .i64 p0, .slice A1 l1.length k1, .int .u64 p2, .int .u64 p3, .int .u64 p4, .int .u64 p5, .int .u64 p6, .int .u64 p7, .int .u64 p8, .int .u64 p9], .agg #[.int .u64 g_0, .int .u64 g_1, .int .u64 g_2, .int .u64 g_3, .int .u64 g_4, .int .u64 g_5, .int .u64 g_6, .int .u64 g_7, .bool g_8, .bool g_9], .int .u64 fl, .int .u64 parts] w fun e w' => e = .returned (.bool true) ∧ Below w.heap.size w w' := by
 have hw1 : SWf l1 := fun x hx => ⟨wf64_ (x1 x hx).1, wf64_ (x1 x hx).2⟩
 rcases Bool.eq_false_or_eq_true (decide (100 < (l1.length : Int))) with h | h
 ·exact tells0_0 p0 p2 p3 p4 p5 p6 p7 p8 p9 g_0 g_1 g_2 g_3 g_4 g_5 g_6 g_7 fl parts g_8 g_9 A1 k1 w l1 hr1 hk1 hw1 h
 ·exact tells1_0 p0 p2 p3 p4 p5 p6 p7 p8 p9 g_0 g_1 g_2 g_3 g_4 g_5 g_6 g_7 fl parts g_8 g_9 A1 k1 (wf64_ vp2) (wf64_ vp3) (wf64_ vp4) (wf64_ vp5) (wf64_ vp6) (wf64_ vp7) (wf64_ vp8) (wf64_ vp9) (wf64_ vg_0) (wf64_ vg_1) (wf64_ vg_2) (wf64_ vg_3) (wf64_ vg_4) (wf64_ vg_5) (wf64_ vg_6) (wf64_ vg_7) (wf64_ vfl) (wf64_ vparts) w l1 hr1 hk1 hw1 h
end Go.Proofs.Ytoanhimhomgjmaa.PPrN
end
