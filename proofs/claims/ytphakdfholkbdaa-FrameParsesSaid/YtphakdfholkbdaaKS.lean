/- Several texts of this claim in one: PFrax33 PFrax34 PFrax35 -/
import Derived.Test.YtphakdfholkbdaaKA
import Derived.Test.YtphakdfholkbdaaKB
section
namespace Go.Proofs.Ytphakdfholkbdaa.PFra
open Go.RowKit Go.Proofs.YtphakdfholkbdaaW.PrintWords Go.Proofs.YtphakdfholkbdaaW.PrintLast Go.Proofs.YtphakdfholkbdaaW.PrintMore
attribute [local go_sem] max2_int min2_int max_two min_two max_three min_three max_four min_four   -- for this text's walks alone
set_option linter.unusedVariables false
set_option linter.unusedSimpArgs false
attribute [local go_sem high] eqA47
def wigwagref05_Spans.l0 : Nat → List (S47) → List (S47) → Int → Option (Bool)
  | 0, _, _, _ => none
  | k + 1, x0, x1, x5 => if x5 < (x0.length : Int) then (if 0 ≤ x5 then (if x5 < (x1.length : Int) then (if (!(((rd_T47 x0 x5).f0) == ((rd_T47 x1 x5).f0)) || (!(((rd_T47 x0 x5).f1) == ((rd_T47 x1 x5).f1)))) = true then (some false) else (wigwagref05_Spans.l0 k x0 x1 (wrap64 (x5 + 1)))) else (none)) else (none)) else (some true)
def wigwagref05_Spans.f (k : Nat) (l0 : List (S47)) (l1 : List (S47)) : Option (Bool) := if (l0.length : Int) = (l1.length : Int) then (wigwagref05_Spans.l0 k l0 l1 0) else (some false)
set_option maxHeartbeats 8000000 in
set_option maxRecDepth 100000 in
theorem wigwagref05_Spans.calls (k : Nat) (A0 : Option Addr) (c0 : Nat) (l0 : List (S47)) (A1 : Option Addr) (c1 : Nat) (l1 : List (S47)) (r : Bool) (w : World) (hr0 : Kd.C k47 w A0 l0.length l0) (hc0 : l0.length ≤ c0) (hr1 : Kd.C k47 w A1 l1.length l1) (hc1 : l1.length ≤ c1) (h : wigwagref05_Spans.f k l0 l1 = some r) :
    Calls Try.prog 23 #[.slice A0 l0.length c0, .slice A1 l1.length c1] w fun e w' => e = .returned (.bool r) ∧ Drawn0 w w' := by
  have hu47 := Try.underlying47
  have HR0 := Aside0.mk hr0
  have HC0 := Aside0.mk hc0
  clear hr0 hc0
  have HR1 := Aside0.mk hr1
  have HC1 := Aside0.mk hc1
  clear hr1 hc1
  have H : (if (l0.length : Int) = (l1.length : Int) then (wigwagref05_Spans.l0 k l0 l1 0) else (some false)) = some r := h
  clear h
  by_cases c3 : (l0.length : Int) = (l1.length : Int)
  · rw [if_pos c3] at H
    have c3b0 : ((l0.length : Int) == (l1.length : Int)) = true := beq_iff_eq.mpr c3
    have c3b1 : ((l0.length : Int) != (l1.length : Int)) = false := bne_eq_false_iff_eq.mpr c3
    have c3b2 : (l0.length == l1.length) = true := by first | simpa using c3 | (simp at c3 ⊢; omega)
    clear c3
    have H' := Aside0.mk H
    clear H
    go_enter Try.func23, Try.ntmps23
    go_wp2
    repeat (go_quiet (fail); try go_wp2)
    go_loopg [5] k (fun kq v5 w' => ∃ (x5_1 : Int), v5 = .int .i64 x5_1 ∧ Aside0 (wigwagref05_Spans.l0 kq l0 l1 x5_1 = some r) ∧ Aside0 (kq ≤ k) ∧ Drawn0 w w')
    case atStart => exact ⟨(0), (by first | rfl | (simp; done) | (simp [*]; done)), H', ⟨Nat.le_refl _⟩, by repeat (first | exact Drawn0.refl _ | apply Drawn0.step)⟩
    case round =>
      clear H'
      try clear c1
      try clear c2
      try clear p2
      try clear c3
      try clear c3b0
      try clear c3b1
      try clear c3b2
      obtain ⟨x5_1, rfl, HA, HK1, ⟨m1, rfl⟩⟩ := hrel
      cases gk with
      | zero => exact absurd HA.out (by simp [wigwagref05_Spans.l0])
      | succ k1 =>
        have H := HA.out
        clear HA
        simp only [wigwagref05_Spans.l0] at H
        by_cases c4 : x5_1 < (l0.length : Int)
        · rw [if_pos c4] at H
          have c4b0 : decide (x5_1 < (l0.length : Int)) = true := decide_eq_true c4
          clear c4
          by_cases c5 : 0 ≤ x5_1
          · rw [if_pos c5] at H
            have c5b0 : decide (0 ≤ x5_1) = true := decide_eq_true c5
            clear c5
            by_cases c6 : x5_1 < (l1.length : Int)
            · rw [if_pos c6] at H
              have c6b0 : decide (x5_1 < (l1.length : Int)) = true := decide_eq_true c6
              clear c6
              by_cases c7 : (!(((rd_T47 l0 x5_1).f0) == ((rd_T47 l1 x5_1).f0)) || (!(((rd_T47 l0 x5_1).f1) == ((rd_T47 l1 x5_1).f1)))) = true
              · rw [if_pos c7] at H
                have c7b0 : (!(((rd_T47 l0 x5_1).f0) == ((rd_T47 l1 x5_1).f0)) || (!(((rd_T47 l0 x5_1).f1) == ((rd_T47 l1 x5_1).f1)))) = true := c7
                clear c7
                obtain rfl := Option.some.inj H
                have p461 : 0 ≤ (x5_1 : Int) := of_decide_eq_true (by first | (with_reducible assumption) | assumption)
                have q461 : x5_1 < (l0.length : Int) := of_decide_eq_true (by first | (with_reducible assumption) | assumption)
                obtain ⟨ad461, e461, hx461_0, hx461_1⟩ := at_T47 HR0.out x5_1 p461 q461
                cases e461
                replace p461 := eq_true p461
                replace q461 := eq_true q461
                have p462 : 0 ≤ (x5_1 : Int) := of_decide_eq_true (by first | (with_reducible assumption) | assumption)
                have q462 : x5_1 < (l1.length : Int) := of_decide_eq_true (by first | (with_reducible assumption) | assumption)
                obtain ⟨ad462, e462, hx462_0, hx462_1⟩ := at_T47 HR1.out x5_1 p462 q462
                cases e462
                replace p462 := eq_true p462
                replace q462 := eq_true q462
                go_wp2
                repeat (go_quiet (fail); try go_wp2)
                go_ret
                exact ⟨by first | rfl | (simp; done) | (simp [*]; done), by repeat (first | exact Drawn0.refl _ | apply Drawn0.step)⟩
              · rw [if_neg c7] at H
                have c7b0 : (!(((rd_T47 l0 x5_1).f0) == ((rd_T47 l1 x5_1).f0)) || (!(((rd_T47 l0 x5_1).f1) == ((rd_T47 l1 x5_1).f1)))) = false := by simpa using c7
                clear c7
                have H' := Aside0.mk H
                clear H
                have p461 : 0 ≤ (x5_1 : Int) := of_decide_eq_true (by first | (with_reducible assumption) | assumption)
                have q461 : x5_1 < (l0.length : Int) := of_decide_eq_true (by first | (with_reducible assumption) | assumption)
                obtain ⟨ad461, e461, hx461_0, hx461_1⟩ := at_T47 HR0.out x5_1 p461 q461
                cases e461
                replace p461 := eq_true p461
                replace q461 := eq_true q461
                have p462 : 0 ≤ (x5_1 : Int) := of_decide_eq_true (by first | (with_reducible assumption) | assumption)
                have q462 : x5_1 < (l1.length : Int) := of_decide_eq_true (by first | (with_reducible assumption) | assumption)
                obtain ⟨ad462, e462, hx462_0, hx462_1⟩ := at_T47 HR1.out x5_1 p462 q462
                cases e462
                replace p462 := eq_true p462
                replace q462 := eq_true q462
                go_wp2
                repeat (go_quiet (fail); try go_wp2)
                go_roundg k1
                case measure => have := HK1.out; omega
                case rel => exact ⟨(wrap64 (x5_1 + 1)), (by first | rfl | (simp; done) | (simp [*]; done)), H', ⟨by have := HK1.out; omega⟩, by repeat (first | exact Drawn0.refl _ | apply Drawn0.step)⟩
            · rw [if_neg c6] at H
              exact absurd H (by simp)
          · rw [if_neg c5] at H
            exact absurd H (by simp)
        · rw [if_neg c4] at H
          have c4b0 : decide (x5_1 < (l0.length : Int)) = false := decide_eq_false c4
          clear c4
          obtain rfl := Option.some.inj H
          go_wp2
          repeat (go_quiet (fail); try go_wp2)
          go_ret
          exact ⟨by first | rfl | (simp; done) | (simp [*]; done), by repeat (first | exact Drawn0.refl _ | apply Drawn0.step)⟩
  · rw [if_neg c3] at H
    have c3b0 : ((l0.length : Int) == (l1.length : Int)) = false := beq_eq_false_iff_ne.mpr c3
    have c3b1 : ((l0.length : Int) != (l1.length : Int)) = true := bne_iff_ne.mpr c3
    have c3b2 : (l0.length == l1.length) = false := by first | simpa using c3 | (simp at c3 ⊢; omega)
    obtain rfl := Option.some.inj H
    go_enter Try.func23, Try.ntmps23
    go_wp2
    repeat (go_quiet (fail); try go_wp2)
    go_ret
    exact ⟨by first | rfl | (simp; done) | (simp [*]; done), by repeat (first | exact Drawn0.refl _ | apply Drawn0.step)⟩
attribute [local go_sem] max2_int min2_int max_two min_two max_three min_three max_four min_four   -- for this text's walks alone
set_option linter.unusedVariables false
set_option linter.unusedSimpArgs false
theorem bN_ {w : World} {g : Nat} {o : Obj} (h : w.heap[g]? = some o) (n : Nat) : (w.drewN n).heap[g]? = some o := blk_drewN h n
theorem bD_ {w : World} {g : Nat} {o : Obj} (h : w.heap[g]? = some o) : w.drew.heap[g]? = some o := blk_drew h
theorem bA_ {w : World} {g : Nat} {o : Obj} (h : w.heap[g]? = some o) (o' : Obj) : (w.alloc o').heap[g]? = some o := blk_alloc h o'
theorem b1_ {w W : World} (h : Below w.heap.size w W) (o : Obj) : Below w.heap.size w (W.alloc o) := below_alloc h o
theorem b2_ {B : Nat} {w W : World} (h : Below B w W) (n : Nat) : Below B w (W.drewN n) := pw_below_drewN h n
theorem b3_ {B : Nat} {w W : World} (h : Below B w W) : Below B w W.drew := below_drew1 h
theorem bS_ {w W : World} {g j : Nat} {v : Value} (h : Below w.heap.size w W) (hg : w.heap.size ≤ g) : Below w.heap.size w (W.setCell ⟨g, j, none⟩ v) := below_set h hg
theorem froz9_ {w : World} {g : Nat} {t : TypeId} {cs : Array Value} (h : w.heap[g]? = some (.cells cs t (0, 0))) : w.frozen? ⟨g, 0, none⟩ = false ∧ w.frozen? ⟨g, 1, none⟩ = false ∧ w.frozen? ⟨g, 2, none⟩ = false ∧ w.frozen? ⟨g, 3, none⟩ = false ∧ w.frozen? ⟨g, 4, none⟩ = false ∧ w.frozen? ⟨g, 5, none⟩ = false ∧ w.frozen? ⟨g, 6, none⟩ = false ∧ w.frozen? ⟨g, 7, none⟩ = false ∧ w.frozen? ⟨g, 8, none⟩ = false := ⟨blk_frozen h 0, blk_frozen h 1, blk_frozen h 2, blk_frozen h 3, blk_frozen h 4, blk_frozen h 5, blk_frozen h 6, blk_frozen h 7, blk_frozen h 8⟩
theorem cells10_ {w : World} {g : Nat} {t : TypeId} {v0 v1 v2 v3 v4 v5 v6 v7 v8 v9 : Value} (h : w.heap[g]? = some (.cells #[v0, v1, v2, v3, v4, v5, v6, v7, v8, v9] t (0, 0))) : w.cell? ⟨g, 0, none⟩ = some v0 ∧ w.cell? ⟨g, 1, none⟩ = some v1 ∧ w.cell? ⟨g, 2, none⟩ = some v2 ∧ w.cell? ⟨g, 3, none⟩ = some v3 ∧ w.cell? ⟨g, 4, none⟩ = some v4 ∧ w.cell? ⟨g, 5, none⟩ = some v5 ∧ w.cell? ⟨g, 6, none⟩ = some v6 ∧ w.cell? ⟨g, 7, none⟩ = some v7 ∧ w.cell? ⟨g, 8, none⟩ = some v8 ∧ w.cell? ⟨g, 9, none⟩ = some v9 := ⟨(blk_cell h 0).trans rfl, (blk_cell h 1).trans rfl, (blk_cell h 2).trans rfl, (blk_cell h 3).trans rfl, (blk_cell h 4).trans rfl, (blk_cell h 5).trans rfl, (blk_cell h 6).trans rfl, (blk_cell h 7).trans rfl, (blk_cell h 8).trans rfl, (blk_cell h 9).trans rfl⟩
theorem froz10_ {w : World} {g : Nat} {t : TypeId} {cs : Array Value} (h : w.heap[g]? = some (.cells cs t (0, 0))) : w.frozen? ⟨g, 0, none⟩ = false ∧ w.frozen? ⟨g, 1, none⟩ = false ∧ w.frozen? ⟨g, 2, none⟩ = false ∧ w.frozen? ⟨g, 3, none⟩ = false ∧ w.frozen? ⟨g, 4, none⟩ = false ∧ w.frozen? ⟨g, 5, none⟩ = false ∧ w.frozen? ⟨g, 6, none⟩ = false ∧ w.frozen? ⟨g, 7, none⟩ = false ∧ w.frozen? ⟨g, 8, none⟩ = false ∧ w.frozen? ⟨g, 9, none⟩ = false := ⟨blk_frozen h 0, blk_frozen h 1, blk_frozen h 2, blk_frozen h 3, blk_frozen h 4, blk_frozen h 5, blk_frozen h 6, blk_frozen h 7, blk_frozen h 8, blk_frozen h 9⟩
def wigwagref05_Same.f (k : Nat) (a0_0 : Int) (a0_1 : Int) (a0_2 : Int) (a0_3 : Int) (a0_4 : Int) (a0_5 : Int) (a0_6 : Int) (a0_7 : Bool) (l0_8 : List Int) (l0_9 : List (S47)) (a1_0 : Int) (a1_1 : Int) (a1_2 : Int) (a1_3 : Int) (a1_4 : Int) (a1_5 : Int) (a1_6 : Int) (a1_7 : Bool) (l1_8 : List Int) (l1_9 : List (S47)) : Option (Bool) := (wigwagref05_Spans.f k l0_9 l1_9).bind fun t465 => (if a0_0 = a1_0 then (if a0_1 = a1_1 then (if a0_2 = a1_2 then (if a0_3 = a1_3 then (if t465 = true then (if a0_4 = a1_4 then (if a0_5 = a1_5 then (if a0_6 = a1_6 then (if (a0_7 == a1_7) = true then (some ((strOfNums l0_8).toList == (strOfNums l1_8).toList)) else (some false)) else (some false)) else (some false)) else (some false)) else (some false)) else (if t465 = true then (some false) else (some false))) else (if t465 = true then (some false) else (some false))) else (if t465 = true then (some false) else (some false))) else (if t465 = true then (some false) else (some false)))
set_option maxHeartbeats 8000000 in
set_option maxRecDepth 100000 in
theorem wigwagref05_Same.calls (k : Nat) (a0_0 : Int) (a0_1 : Int) (a0_2 : Int) (a0_3 : Int) (a0_4 : Int) (a0_5 : Int) (a0_6 : Int) (a0_7 : Bool) (A0_8 : Option Addr) (c0_8 : Nat) (l0_8 : List Int) (A0_9 : Option Addr) (c0_9 : Nat) (l0_9 : List (S47)) (a1_0 : Int) (a1_1 : Int) (a1_2 : Int) (a1_3 : Int) (a1_4 : Int) (a1_5 : Int) (a1_6 : Int) (a1_7 : Bool) (A1_8 : Option Addr) (c1_8 : Nat) (l1_8 : List Int) (A1_9 : Option Addr) (c1_9 : Nat) (l1_9 : List (S47)) (r : Bool) (w : World) (hr0_8 : Kd.C (Kd.int .u8) w A0_8 l0_8.length l0_8) (hc0_8 : l0_8.length ≤ c0_8) (hr0_9 : Kd.C k47 w A0_9 l0_9.length l0_9) (hc0_9 : l0_9.length ≤ c0_9) (hr1_8 : Kd.C (Kd.int .u8) w A1_8 l1_8.length l1_8) (hc1_8 : l1_8.length ≤ c1_8) (hr1_9 : Kd.C k47 w A1_9 l1_9.length l1_9) (hc1_9 : l1_9.length ≤ c1_9) (h : wigwagref05_Same.f k a0_0 a0_1 a0_2 a0_3 a0_4 a0_5 a0_6 a0_7 l0_8 l0_9 a1_0 a1_1 a1_2 a1_3 a1_4 a1_5 a1_6 a1_7 l1_8 l1_9 = some r) :
  Calls Try.prog 21 #[.agg #[.int .i64 a0_0, .int .u64 a0_1, .int .u64 a0_2, .int .u64 a0_3, .int .u64 a0_4, .int .u64 a0_5, .int .u64 a0_6, .bool a0_7, .slice A0_8 l0_8.length c0_8, .slice A0_9 l0_9.length c0_9], .agg #[.int .i64 a1_0, .int .u64 a1_1, .int .u64 a1_2, .int .u64 a1_3, .int .u64 a1_4, .int .u64 a1_5, .int .u64 a1_6, .bool a1_7, .slice A1_8 l1_8.length c1_8, .slice A1_9 l1_9.length c1_9]] w fun e w' => e = .returned (.bool r) ∧ Below w.heap.size w w' := by
 have hu27 := Try.underlying27
 have HR0_8 := Aside0.mk hr0_8
 have HC0_8 := Aside0.mk hc0_8
 clear hr0_8 hc0_8
 have HR0_9 := Aside0.mk hr0_9
 have HC0_9 := Aside0.mk hc0_9
 clear hr0_9 hc0_9
 have HR1_8 := Aside0.mk hr1_8
 have HC1_8 := Aside0.mk hc1_8
 clear hr1_8 hc1_8
 have HR1_9 := Aside0.mk hr1_9
 have HC1_9 := Aside0.mk hc1_9
 clear hr1_9 hc1_9; have HB := Aside0.mk (Below.refl w.heap.size w)
 have H : ((wigwagref05_Spans.f k l0_9 l1_9).bind fun t465 => (if a0_0 = a1_0 then (if a0_1 = a1_1 then (if a0_2 = a1_2 then (if a0_3 = a1_3 then (if t465 = true then (if a0_4 = a1_4 then (if a0_5 = a1_5 then (if a0_6 = a1_6 then (if (a0_7 == a1_7) = true then (some ((strOfNums l0_8).toList == (strOfNums l1_8).toList)) else (some false)) else (some false)) else (some false)) else (some false)) else (some false)) else (if t465 = true then (some false) else (some false))) else (if t465 = true then (some false) else (some false))) else (if t465 = true then (some false) else (some false))) else (if t465 = true then (some false) else (some false)))) = some r := h
 clear h
 replace H := Option.bind_eq_some_iff.mp H
 obtain ⟨t465, A30, H⟩ := H
 replace H : (if a0_0 = a1_0 then (if a0_1 = a1_1 then (if a0_2 = a1_2 then (if a0_3 = a1_3 then (if t465 = true then (if a0_4 = a1_4 then (if a0_5 = a1_5 then (if a0_6 = a1_6 then (if (a0_7 == a1_7) = true then (some ((strOfNums l0_8).toList == (strOfNums l1_8).toList)) else (some false)) else (some false)) else (some false)) else (some false)) else (some false)) else (if t465 = true then (some false) else (some false))) else (if t465 = true then (some false) else (some false))) else (if t465 = true then (some false) else (some false))) else (if t465 = true then (some false) else (some false))) = some r := H
 have A3 := Aside0.mk A30
 clear A30
 by_cases c4 : a0_0 = a1_0
 ·rw [if_pos c4] at H
  have c4b0 : (a0_0 == a1_0) = true := beq_iff_eq.mpr c4
  have c4b1 : (a0_0 != a1_0) = false := bne_eq_false_iff_eq.mpr c4
  clear c4
  by_cases c5 : a0_1 = a1_1
  ·rw [if_pos c5] at H
   have c5b0 : (a0_1 == a1_1) = true := beq_iff_eq.mpr c5
   have c5b1 : (a0_1 != a1_1) = false := bne_eq_false_iff_eq.mpr c5
   clear c5
   by_cases c6 : a0_2 = a1_2
   ·rw [if_pos c6] at H
    have c6b0 : (a0_2 == a1_2) = true := beq_iff_eq.mpr c6
    have c6b1 : (a0_2 != a1_2) = false := bne_eq_false_iff_eq.mpr c6
    clear c6
    by_cases c7 : a0_3 = a1_3
    ·rw [if_pos c7] at H
     have c7b0 : (a0_3 == a1_3) = true := beq_iff_eq.mpr c7
     have c7b1 : (a0_3 != a1_3) = false := bne_eq_false_iff_eq.mpr c7
     clear c7
     by_cases c8 : t465 = true
     ·subst c8
      have H1 : (if a0_4 = a1_4 then (if a0_5 = a1_5 then (if a0_6 = a1_6 then (if (a0_7 == a1_7) = true then (some ((strOfNums l0_8).toList == (strOfNums l1_8).toList)) else (some false)) else (some false)) else (some false)) else (some false)) = some r := by rw [if_pos rfl] at H; exact H
      clear H
      have H := H1
      clear H1
      by_cases c9 : a0_4 = a1_4
      ·rw [if_pos c9] at H
       have c9b0 : (a0_4 == a1_4) = true := beq_iff_eq.mpr c9
       have c9b1 : (a0_4 != a1_4) = false := bne_eq_false_iff_eq.mpr c9
       clear c9
       by_cases c10 : a0_5 = a1_5
       ·rw [if_pos c10] at H
        have c10b0 : (a0_5 == a1_5) = true := beq_iff_eq.mpr c10
        have c10b1 : (a0_5 != a1_5) = false := bne_eq_false_iff_eq.mpr c10
        clear c10
        by_cases c11 : a0_6 = a1_6
        ·rw [if_pos c11] at H
         have c11b0 : (a0_6 == a1_6) = true := beq_iff_eq.mpr c11
         have c11b1 : (a0_6 != a1_6) = false := bne_eq_false_iff_eq.mpr c11
         clear c11
         by_cases c12 : (a0_7 == a1_7) = true
         ·rw [if_pos c12] at H
          have c12b0 : (a0_7 == a1_7) = true := c12
          (try (have c12b1 : decide (a0_7 = a1_7) = true := by simpa using c12))
          (try (have c12b2 : (a0_7 == a1_7) = true := by simpa using c12))
          clear c12
          obtain rfl := Option.some.inj H
          go_enter Try.func21, Try.ntmps21
          go_wp2_with (first | ((with_reducible refine gate_dst (N := 2) rfl ?_); refine box_event ?hg (N := 2) ?hd (cs := #[.int .i64 a0_0, .int .u64 a0_1, .int .u64 a0_2, .int .u64 a0_3, .int .u64 a0_4, .int .u64 a0_5, .int .u64 a0_6, .bool a0_7, .slice A0_8 l0_8.length c0_8, .slice A0_9 l0_9.length c0_9]) (t := 27) ?hr ?_; (case hd => rfl); (case hg => rfl); (case hr => first | (go_simp; done) | (go_simp; rfl)); intro gb463 hg w13 hbox hb; have n0_ := Aside0.mk (below_step (by repeat (first | (with_reducible first | exact HB.out | apply b1_ | apply b2_ | apply b3_) | exact HB.out)) hb); have n1_ := Aside0.mk (hbox); have n2_ := Aside0.mk ((by rw [hg]; exact (below_size (by repeat (first | (with_reducible first | exact HB.out | apply b1_ | apply b2_ | apply b3_) | exact HB.out))) : w.heap.size ≤ gb463)); have n3_ := Aside0.mk ((by rw [hg]; exact (below_size (by repeat (first | (with_reducible first | exact HB.out | apply b1_ | apply b2_ | apply b3_) | exact HB.out))) : w.heap.size ≤ gb463)); clear HB; have HB := n0_; have BK463 := n1_; have GW463 := n2_; have GE463 := n3_; clear n0_ n1_ n2_ n3_; clear hb hbox hg) | ((with_reducible refine gate_dst (N := 3) rfl ?_); refine box_event ?hg (N := 3) ?hd (cs := #[.int .i64 a1_0, .int .u64 a1_1, .int .u64 a1_2, .int .u64 a1_3, .int .u64 a1_4, .int .u64 a1_5, .int .u64 a1_6, .bool a1_7, .slice A1_8 l1_8.length c1_8, .slice A1_9 l1_9.length c1_9]) (t := 27) ?hr ?_; (case hd => rfl); (case hg => rfl); (case hr => first | (go_simp; done) | (go_simp; rfl)); intro gb464 hg w14 hbox hb; have n0_ := Aside0.mk (blk_below (g := gb463) (o := .cells #[.int .i64 a0_0, .int .u64 a0_1, .int .u64 a0_2, .int .u64 a0_3, .int .u64 a0_4, .int .u64 a0_5, .int .u64 a0_6, .bool a0_7, .slice A0_8 l0_8.length c0_8, .slice A0_9 l0_9.length c0_9] 27 (0, 0)) (by (with_reducible repeat first|apply bN_|apply bD_|apply bA_); exact BK463.out) hb); have n1_ := Aside0.mk (below_step (by repeat (first | (with_reducible first | exact HB.out | apply b1_ | apply b2_ | apply b3_ | refine bS_ ?_ GE463.out) | exact HB.out)) hb); have n2_ := Aside0.mk (hbox); have n3_ := Aside0.mk ((by rw [hg]; exact (below_size (by repeat (first | (with_reducible first | exact HB.out | apply b1_ | apply b2_ | apply b3_ | refine bS_ ?_ GE463.out) | exact HB.out))) : w.heap.size ≤ gb464)); have n4_ := Aside0.mk ((by rw [hg]; exact (below_size (by repeat (first | (with_reducible first | exact HB.out | apply b1_ | apply b2_ | apply b3_ | refine bS_ ?_ GE463.out) | exact HB.out))) : w.heap.size ≤ gb464)); have n5_ := Aside0.mk ((by rw [hg]; exact Nat.ne_of_lt (blk_lt (g := gb463) (o := .cells #[.int .i64 a0_0, .int .u64 a0_1, .int .u64 a0_2, .int .u64 a0_3, .int .u64 a0_4, .int .u64 a0_5, .int .u64 a0_6, .bool a0_7, .slice A0_8 l0_8.length c0_8, .slice A0_9 l0_9.length c0_9] 27 (0, 0)) (by (with_reducible repeat first|apply bN_|apply bD_|apply bA_); exact BK463.out)) : gb463 ≠ gb464)); have n6_ := Aside0.mk ((by rw [hg]; exact Nat.ne_of_gt (blk_lt (g := gb463) (o := .cells #[.int .i64 a0_0, .int .u64 a0_1, .int .u64 a0_2, .int .u64 a0_3, .int .u64 a0_4, .int .u64 a0_5, .int .u64 a0_6, .bool a0_7, .slice A0_8 l0_8.length c0_8, .slice A0_9 l0_9.length c0_9] 27 (0, 0)) (by (with_reducible repeat first|apply bN_|apply bD_|apply bA_); exact BK463.out)) : gb464 ≠ gb463)); clear BK463; clear HB; have BK463 := n0_; have HB := n1_; have BK464 := n2_; have GW464 := n3_; have GE464 := n4_; have NB463_464 := n5_; have NB464_463 := n6_; clear n0_ n1_ n2_ n3_ n4_ n5_ n6_; clear hb hbox hg; have hnb15 := NB463_464.out; have hnc15 := NB464_463.out; have hcz16_0 := cells10_ BK463.out; have hfz16_0 := froz10_ BK463.out; have hcz17_0 := cells10_ BK464.out; have hfz17_0 := froz9_ BK464.out; have hfz17_9 := blk_frozen BK464.out 9) | ((with_reducible refine gate_callee (f := 23) rfl ?_); refine goesL_ (some 11) rfl rfl Try.func23 (by kernel_rfl) rfl #[.slice A0_9 l0_9.length c0_9, .slice A1_9 l1_9.length c1_9] rfl (by (try simp only [List.map_toArray, List.map_cons, List.map_nil]); first | done | rfl | (simp only [List.length_drop, List.length_take]; rfl)) ?_; (with_reducible refine (wigwagref05_Spans.calls k _ _ l0_9 _ _ l1_9 true _ ?side1 ?side2 ?side3 ?side4 A3.out).mono ?_); (case side1 => repeat (first | exact (Kd.C_below HR0_9.out HB.out) | (with_reducible refine Kd.C_alloc ?_ _) | (with_reducible refine Kd.C_drewN ?_ _) | (with_reducible refine Kd.C_drew ?_))); (case side2 => exact HC0_9.out); (case side3 => repeat (first | exact (Kd.C_below HR1_9.out HB.out) | (with_reducible refine Kd.C_alloc ?_ _) | (with_reducible refine Kd.C_drewN ?_ _) | (with_reducible refine Kd.C_drew ?_))); (case side4 => exact HC1_9.out); rintro e w' ⟨rfl, ⟨nd, rfl⟩⟩; refine ⟨_, rfl, ?_⟩; have hcv18 := Kd.C_string (P := Try.prog) (A := A0_8) (c := c0_8) Try.underlying24 Try.underlying5 Try.underlying9 (Kd.C_drewN (Kd.C_below HR0_8.out HB.out) nd); have hcv19 := Kd.C_string (P := Try.prog) (A := A1_8) (c := c1_8) Try.underlying24 Try.underlying5 Try.underlying9 (Kd.C_drewN (Kd.C_below HR1_8.out HB.out) nd)))
          go_ret
          exact ⟨by first | rfl | (simp [errW_none, errW_some] <;> rfl) | (simp [*, errW_none, errW_some] <;> rfl), by repeat (first | (with_reducible first | exact HB.out | apply b1_ | apply b2_ | apply b3_ | refine bS_ ?_ GE463.out | refine bS_ ?_ GE464.out) | exact HB.out)⟩
         ·rw [if_neg c12] at H
          have c12b0 : (a0_7 == a1_7) = false := by simpa using c12
          (try (have c12b1 : decide (a0_7 = a1_7) = false := by simpa using c12))
          (try (have c12b2 : (a0_7 == a1_7) = false := by simpa using c12))
          (try (have c12b3 : ¬ (a0_7 = a1_7) := by simpa using c12))
          clear c12
          obtain rfl := Option.some.inj H
          go_enter Try.func21, Try.ntmps21
          go_wp2_with (first | ((with_reducible refine gate_dst (N := 2) rfl ?_); refine box_event ?hg (N := 2) ?hd (cs := #[.int .i64 a0_0, .int .u64 a0_1, .int .u64 a0_2, .int .u64 a0_3, .int .u64 a0_4, .int .u64 a0_5, .int .u64 a0_6, .bool a0_7, .slice A0_8 l0_8.length c0_8, .slice A0_9 l0_9.length c0_9]) (t := 27) ?hr ?_; (case hd => rfl); (case hg => rfl); (case hr => first | (go_simp; done) | (go_simp; rfl)); intro gb463 hg w20 hbox hb; have n0_ := Aside0.mk (below_step (by repeat (first | (with_reducible first | exact HB.out | apply b1_ | apply b2_ | apply b3_) | exact HB.out)) hb); have n1_ := Aside0.mk (hbox); have n2_ := Aside0.mk ((by rw [hg]; exact (below_size (by repeat (first | (with_reducible first | exact HB.out | apply b1_ | apply b2_ | apply b3_) | exact HB.out))) : w.heap.size ≤ gb463)); have n3_ := Aside0.mk ((by rw [hg]; exact (below_size (by repeat (first | (with_reducible first | exact HB.out | apply b1_ | apply b2_ | apply b3_) | exact HB.out))) : w.heap.size ≤ gb463)); clear HB; have HB := n0_; have BK463 := n1_; have GW463 := n2_; have GE463 := n3_; clear n0_ n1_ n2_ n3_; clear hb hbox hg) | ((with_reducible refine gate_dst (N := 3) rfl ?_); refine box_event ?hg (N := 3) ?hd (cs := #[.int .i64 a1_0, .int .u64 a1_1, .int .u64 a1_2, .int .u64 a1_3, .int .u64 a1_4, .int .u64 a1_5, .int .u64 a1_6, .bool a1_7, .slice A1_8 l1_8.length c1_8, .slice A1_9 l1_9.length c1_9]) (t := 27) ?hr ?_; (case hd => rfl); (case hg => rfl); (case hr => first | (go_simp; done) | (go_simp; rfl)); intro gb464 hg w21 hbox hb; have n0_ := Aside0.mk (blk_below (g := gb463) (o := .cells #[.int .i64 a0_0, .int .u64 a0_1, .int .u64 a0_2, .int .u64 a0_3, .int .u64 a0_4, .int .u64 a0_5, .int .u64 a0_6, .bool a0_7, .slice A0_8 l0_8.length c0_8, .slice A0_9 l0_9.length c0_9] 27 (0, 0)) (by (with_reducible repeat first|apply bN_|apply bD_|apply bA_); exact BK463.out) hb); have n1_ := Aside0.mk (below_step (by repeat (first | (with_reducible first | exact HB.out | apply b1_ | apply b2_ | apply b3_ | refine bS_ ?_ GE463.out) | exact HB.out)) hb); have n2_ := Aside0.mk (hbox); have n3_ := Aside0.mk ((by rw [hg]; exact (below_size (by repeat (first | (with_reducible first | exact HB.out | apply b1_ | apply b2_ | apply b3_ | refine bS_ ?_ GE463.out) | exact HB.out))) : w.heap.size ≤ gb464)); have n4_ := Aside0.mk ((by rw [hg]; exact (below_size (by repeat (first | (with_reducible first | exact HB.out | apply b1_ | apply b2_ | apply b3_ | refine bS_ ?_ GE463.out) | exact HB.out))) : w.heap.size ≤ gb464)); have n5_ := Aside0.mk ((by rw [hg]; exact Nat.ne_of_lt (blk_lt (g := gb463) (o := .cells #[.int .i64 a0_0, .int .u64 a0_1, .int .u64 a0_2, .int .u64 a0_3, .int .u64 a0_4, .int .u64 a0_5, .int .u64 a0_6, .bool a0_7, .slice A0_8 l0_8.length c0_8, .slice A0_9 l0_9.length c0_9] 27 (0, 0)) (by (with_reducible repeat first|apply bN_|apply bD_|apply bA_); exact BK463.out)) : gb463 ≠ gb464)); have n6_ := Aside0.mk ((by rw [hg]; exact Nat.ne_of_gt (blk_lt (g := gb463) (o := .cells #[.int .i64 a0_0, .int .u64 a0_1, .int .u64 a0_2, .int .u64 a0_3, .int .u64 a0_4, .int .u64 a0_5, .int .u64 a0_6, .bool a0_7, .slice A0_8 l0_8.length c0_8, .slice A0_9 l0_9.length c0_9] 27 (0, 0)) (by (with_reducible repeat first|apply bN_|apply bD_|apply bA_); exact BK463.out)) : gb464 ≠ gb463)); clear BK463; clear HB; have BK463 := n0_; have HB := n1_; have BK464 := n2_; have GW464 := n3_; have GE464 := n4_; have NB463_464 := n5_; have NB464_463 := n6_; clear n0_ n1_ n2_ n3_ n4_ n5_ n6_; clear hb hbox hg; have hnb22 := NB463_464.out; have hnc22 := NB464_463.out; have hcz23_0 := cells10_ BK463.out; have hfz23_0 := froz10_ BK463.out; have hcz24_0 := cells10_ BK464.out; have hfz24_0 := froz9_ BK464.out; have hfz24_9 := blk_frozen BK464.out 9) | ((with_reducible refine gate_callee (f := 23) rfl ?_); refine goesL_ (some 11) rfl rfl Try.func23 (by kernel_rfl) rfl #[.slice A0_9 l0_9.length c0_9, .slice A1_9 l1_9.length c1_9] rfl (by (try simp only [List.map_toArray, List.map_cons, List.map_nil]); first | done | rfl | (simp only [List.length_drop, List.length_take]; rfl)) ?_; (with_reducible refine (wigwagref05_Spans.calls k _ _ l0_9 _ _ l1_9 true _ ?side1 ?side2 ?side3 ?side4 A3.out).mono ?_); (case side1 => repeat (first | exact (Kd.C_below HR0_9.out HB.out) | (with_reducible refine Kd.C_alloc ?_ _) | (with_reducible refine Kd.C_drewN ?_ _) | (with_reducible refine Kd.C_drew ?_))); (case side2 => exact HC0_9.out); (case side3 => repeat (first | exact (Kd.C_below HR1_9.out HB.out) | (with_reducible refine Kd.C_alloc ?_ _) | (with_reducible refine Kd.C_drewN ?_ _) | (with_reducible refine Kd.C_drew ?_))); (case side4 => exact HC1_9.out); rintro e w' ⟨rfl, ⟨nd, rfl⟩⟩; refine ⟨_, rfl, ?_⟩))
          go_ret
          exact ⟨by first | rfl | (simp [errW_none, errW_some] <;> rfl) | (simp [*, errW_none, errW_some] <;> rfl), by repeat (first | (with_reducible first | exact HB.out | apply b1_ | apply b2_ | apply b3_ | refine bS_ ?_ GE463.out | refine bS_ ?_ GE464.out) | exact HB.out)⟩
        ·rw [if_neg c11] at H
         have c11b0 : (a0_6 == a1_6) = false := beq_eq_false_iff_ne.mpr c11
         have c11b1 : (a0_6 != a1_6) = true := bne_iff_ne.mpr c11
         obtain rfl := Option.some.inj H
         go_enter Try.func21, Try.ntmps21
         go_wp2_with (first | ((with_reducible refine gate_dst (N := 2) rfl ?_); refine box_event ?hg (N := 2) ?hd (cs := #[.int .i64 a0_0, .int .u64 a0_1, .int .u64 a0_2, .int .u64 a0_3, .int .u64 a0_4, .int .u64 a0_5, .int .u64 a0_6, .bool a0_7, .slice A0_8 l0_8.length c0_8, .slice A0_9 l0_9.length c0_9]) (t := 27) ?hr ?_; (case hd => rfl); (case hg => rfl); (case hr => first | (go_simp; done) | (go_simp; rfl)); intro gb463 hg w25 hbox hb; have n0_ := Aside0.mk (below_step (by repeat (first | (with_reducible first | exact HB.out | apply b1_ | apply b2_ | apply b3_) | exact HB.out)) hb); have n1_ := Aside0.mk (hbox); have n2_ := Aside0.mk ((by rw [hg]; exact (below_size (by repeat (first | (with_reducible first | exact HB.out | apply b1_ | apply b2_ | apply b3_) | exact HB.out))) : w.heap.size ≤ gb463)); have n3_ := Aside0.mk ((by rw [hg]; exact (below_size (by repeat (first | (with_reducible first | exact HB.out | apply b1_ | apply b2_ | apply b3_) | exact HB.out))) : w.heap.size ≤ gb463)); clear HB; have HB := n0_; have BK463 := n1_; have GW463 := n2_; have GE463 := n3_; clear n0_ n1_ n2_ n3_; clear hb hbox hg) | ((with_reducible refine gate_dst (N := 3) rfl ?_); refine box_event ?hg (N := 3) ?hd (cs := #[.int .i64 a1_0, .int .u64 a1_1, .int .u64 a1_2, .int .u64 a1_3, .int .u64 a1_4, .int .u64 a1_5, .int .u64 a1_6, .bool a1_7, .slice A1_8 l1_8.length c1_8, .slice A1_9 l1_9.length c1_9]) (t := 27) ?hr ?_; (case hd => rfl); (case hg => rfl); (case hr => first | (go_simp; done) | (go_simp; rfl)); intro gb464 hg w26 hbox hb; have n0_ := Aside0.mk (blk_below (g := gb463) (o := .cells #[.int .i64 a0_0, .int .u64 a0_1, .int .u64 a0_2, .int .u64 a0_3, .int .u64 a0_4, .int .u64 a0_5, .int .u64 a0_6, .bool a0_7, .slice A0_8 l0_8.length c0_8, .slice A0_9 l0_9.length c0_9] 27 (0, 0)) (by (with_reducible repeat first|apply bN_|apply bD_|apply bA_); exact BK463.out) hb); have n1_ := Aside0.mk (below_step (by repeat (first | (with_reducible first | exact HB.out | apply b1_ | apply b2_ | apply b3_ | refine bS_ ?_ GE463.out) | exact HB.out)) hb); have n2_ := Aside0.mk (hbox); have n3_ := Aside0.mk ((by rw [hg]; exact (below_size (by repeat (first | (with_reducible first | exact HB.out | apply b1_ | apply b2_ | apply b3_ | refine bS_ ?_ GE463.out) | exact HB.out))) : w.heap.size ≤ gb464)); have n4_ := Aside0.mk ((by rw [hg]; exact (below_size (by repeat (first | (with_reducible first | exact HB.out | apply b1_ | apply b2_ | apply b3_ | refine bS_ ?_ GE463.out) | exact HB.out))) : w.heap.size ≤ gb464)); have n5_ := Aside0.mk ((by rw [hg]; exact Nat.ne_of_lt (blk_lt (g := gb463) (o := .cells #[.int .i64 a0_0, .int .u64 a0_1, .int .u64 a0_2, .int .u64 a0_3, .int .u64 a0_4, .int .u64 a0_5, .int .u64 a0_6, .bool a0_7, .slice A0_8 l0_8.length c0_8, .slice A0_9 l0_9.length c0_9] 27 (0, 0)) (by (with_reducible repeat first|apply bN_|apply bD_|apply bA_); exact BK463.out)) : gb463 ≠ gb464)); have n6_ := Aside0.mk ((by rw [hg]; exact Nat.ne_of_gt (blk_lt (g := gb463) (o := .cells #[.int .i64 a0_0, .int .u64 a0_1, .int .u64 a0_2, .int .u64 a0_3, .int .u64 a0_4, .int .u64 a0_5, .int .u64 a0_6, .bool a0_7, .slice A0_8 l0_8.length c0_8, .slice A0_9 l0_9.length c0_9] 27 (0, 0)) (by (with_reducible repeat first|apply bN_|apply bD_|apply bA_); exact BK463.out)) : gb464 ≠ gb463)); clear BK463; clear HB; have BK463 := n0_; have HB := n1_; have BK464 := n2_; have GW464 := n3_; have GE464 := n4_; have NB463_464 := n5_; have NB464_463 := n6_; clear n0_ n1_ n2_ n3_ n4_ n5_ n6_; clear hb hbox hg; have hnb27 := NB463_464.out; have hnc27 := NB464_463.out; have hcz28_0 := cells10_ BK463.out; have hfz28_0 := froz10_ BK463.out; have hcz29_0 := cells10_ BK464.out; have hfz29_0 := froz9_ BK464.out; have hfz29_9 := blk_frozen BK464.out 9) | ((with_reducible refine gate_callee (f := 23) rfl ?_); refine goesL_ (some 11) rfl rfl Try.func23 (by kernel_rfl) rfl #[.slice A0_9 l0_9.length c0_9, .slice A1_9 l1_9.length c1_9] rfl (by (try simp only [List.map_toArray, List.map_cons, List.map_nil]); first | done | rfl | (simp only [List.length_drop, List.length_take]; rfl)) ?_; (with_reducible refine (wigwagref05_Spans.calls k _ _ l0_9 _ _ l1_9 true _ ?side1 ?side2 ?side3 ?side4 A3.out).mono ?_); (case side1 => repeat (first | exact (Kd.C_below HR0_9.out HB.out) | (with_reducible refine Kd.C_alloc ?_ _) | (with_reducible refine Kd.C_drewN ?_ _) | (with_reducible refine Kd.C_drew ?_))); (case side2 => exact HC0_9.out); (case side3 => repeat (first | exact (Kd.C_below HR1_9.out HB.out) | (with_reducible refine Kd.C_alloc ?_ _) | (with_reducible refine Kd.C_drewN ?_ _) | (with_reducible refine Kd.C_drew ?_))); (case side4 => exact HC1_9.out); rintro e w' ⟨rfl, ⟨nd, rfl⟩⟩; refine ⟨_, rfl, ?_⟩))
         go_ret
         exact ⟨by first | rfl | (simp [errW_none, errW_some] <;> rfl) | (simp [*, errW_none, errW_some] <;> rfl), by repeat (first | (with_reducible first | exact HB.out | apply b1_ | apply b2_ | apply b3_ | refine bS_ ?_ GE463.out | refine bS_ ?_ GE464.out) | exact HB.out)⟩
       ·rw [if_neg c10] at H
        have c10b0 : (a0_5 == a1_5) = false := beq_eq_false_iff_ne.mpr c10
        have c10b1 : (a0_5 != a1_5) = true := bne_iff_ne.mpr c10
        obtain rfl := Option.some.inj H
        go_enter Try.func21, Try.ntmps21
        go_wp2_with (first | ((with_reducible refine gate_dst (N := 2) rfl ?_); refine box_event ?hg (N := 2) ?hd (cs := #[.int .i64 a0_0, .int .u64 a0_1, .int .u64 a0_2, .int .u64 a0_3, .int .u64 a0_4, .int .u64 a0_5, .int .u64 a0_6, .bool a0_7, .slice A0_8 l0_8.length c0_8, .slice A0_9 l0_9.length c0_9]) (t := 27) ?hr ?_; (case hd => rfl); (case hg => rfl); (case hr => first | (go_simp; done) | (go_simp; rfl)); intro gb463 hg w30 hbox hb; have n0_ := Aside0.mk (below_step (by repeat (first | (with_reducible first | exact HB.out | apply b1_ | apply b2_ | apply b3_) | exact HB.out)) hb); have n1_ := Aside0.mk (hbox); have n2_ := Aside0.mk ((by rw [hg]; exact (below_size (by repeat (first | (with_reducible first | exact HB.out | apply b1_ | apply b2_ | apply b3_) | exact HB.out))) : w.heap.size ≤ gb463)); have n3_ := Aside0.mk ((by rw [hg]; exact (below_size (by repeat (first | (with_reducible first | exact HB.out | apply b1_ | apply b2_ | apply b3_) | exact HB.out))) : w.heap.size ≤ gb463)); clear HB; have HB := n0_; have BK463 := n1_; have GW463 := n2_; have GE463 := n3_; clear n0_ n1_ n2_ n3_; clear hb hbox hg) | ((with_reducible refine gate_dst (N := 3) rfl ?_); refine box_event ?hg (N := 3) ?hd (cs := #[.int .i64 a1_0, .int .u64 a1_1, .int .u64 a1_2, .int .u64 a1_3, .int .u64 a1_4, .int .u64 a1_5, .int .u64 a1_6, .bool a1_7, .slice A1_8 l1_8.length c1_8, .slice A1_9 l1_9.length c1_9]) (t := 27) ?hr ?_; (case hd => rfl); (case hg => rfl); (case hr => first | (go_simp; done) | (go_simp; rfl)); intro gb464 hg w31 hbox hb; have n0_ := Aside0.mk (blk_below (g := gb463) (o := .cells #[.int .i64 a0_0, .int .u64 a0_1, .int .u64 a0_2, .int .u64 a0_3, .int .u64 a0_4, .int .u64 a0_5, .int .u64 a0_6, .bool a0_7, .slice A0_8 l0_8.length c0_8, .slice A0_9 l0_9.length c0_9] 27 (0, 0)) (by (with_reducible repeat first|apply bN_|apply bD_|apply bA_); exact BK463.out) hb); have n1_ := Aside0.mk (below_step (by repeat (first | (with_reducible first | exact HB.out | apply b1_ | apply b2_ | apply b3_ | refine bS_ ?_ GE463.out) | exact HB.out)) hb); have n2_ := Aside0.mk (hbox); have n3_ := Aside0.mk ((by rw [hg]; exact (below_size (by repeat (first | (with_reducible first | exact HB.out | apply b1_ | apply b2_ | apply b3_ | refine bS_ ?_ GE463.out) | exact HB.out))) : w.heap.size ≤ gb464)); have n4_ := Aside0.mk ((by rw [hg]; exact (below_size (by repeat (first | (with_reducible first | exact HB.out | apply b1_ | apply b2_ | apply b3_ | refine bS_ ?_ GE463.out) | exact HB.out))) : w.heap.size ≤ gb464)); have n5_ := Aside0.mk ((by rw [hg]; exact Nat.ne_of_lt (blk_lt (g := gb463) (o := .cells #[.int .i64 a0_0, .int .u64 a0_1, .int .u64 a0_2, .int .u64 a0_3, .int .u64 a0_4, .int .u64 a0_5, .int .u64 a0_6, .bool a0_7, .slice A0_8 l0_8.length c0_8, .slice A0_9 l0_9.length c0_9] 27 (0, 0)) (by (with_reducible repeat first|apply bN_|apply bD_|apply bA_); exact BK463.out)) : gb463 ≠ gb464)); have n6_ := Aside0.mk ((by rw [hg]; exact Nat.ne_of_gt (blk_lt (g := gb463) (o := .cells #[.int .i64 a0_0, .int .u64 a0_1, .int .u64 a0_2, .int .u64 a0_3, .int .u64 a0_4, .int .u64 a0_5, .int .u64 a0_6, .bool a0_7, .slice A0_8 l0_8.length c0_8, .slice A0_9 l0_9.length c0_9] 27 (0, 0)) (by (with_reducible repeat first|apply bN_|apply bD_|apply bA_); exact BK463.out)) : gb464 ≠ gb463)); clear BK463; clear HB; have BK463 := n0_; have HB := n1_; have BK464 := n2_; have GW464 := n3_; have GE464 := n4_; have NB463_464 := n5_; have NB464_463 := n6_; clear n0_ n1_ n2_ n3_ n4_ n5_ n6_; clear hb hbox hg; have hnb32 := NB463_464.out; have hnc32 := NB464_463.out; have hcz33_0 := cells10_ BK463.out; have hfz33_0 := froz10_ BK463.out; have hcz34_0 := cells10_ BK464.out; have hfz34_0 := froz9_ BK464.out; have hfz34_9 := blk_frozen BK464.out 9) | ((with_reducible refine gate_callee (f := 23) rfl ?_); refine goesL_ (some 11) rfl rfl Try.func23 (by kernel_rfl) rfl #[.slice A0_9 l0_9.length c0_9, .slice A1_9 l1_9.length c1_9] rfl (by (try simp only [List.map_toArray, List.map_cons, List.map_nil]); first | done | rfl | (simp only [List.length_drop, List.length_take]; rfl)) ?_; (with_reducible refine (wigwagref05_Spans.calls k _ _ l0_9 _ _ l1_9 true _ ?side1 ?side2 ?side3 ?side4 A3.out).mono ?_); (case side1 => repeat (first | exact (Kd.C_below HR0_9.out HB.out) | (with_reducible refine Kd.C_alloc ?_ _) | (with_reducible refine Kd.C_drewN ?_ _) | (with_reducible refine Kd.C_drew ?_))); (case side2 => exact HC0_9.out); (case side3 => repeat (first | exact (Kd.C_below HR1_9.out HB.out) | (with_reducible refine Kd.C_alloc ?_ _) | (with_reducible refine Kd.C_drewN ?_ _) | (with_reducible refine Kd.C_drew ?_))); (case side4 => exact HC1_9.out); rintro e w' ⟨rfl, ⟨nd, rfl⟩⟩; refine ⟨_, rfl, ?_⟩))
        go_ret
        exact ⟨by first | rfl | (simp [errW_none, errW_some] <;> rfl) | (simp [*, errW_none, errW_some] <;> rfl), by repeat (first | (with_reducible first | exact HB.out | apply b1_ | apply b2_ | apply b3_ | refine bS_ ?_ GE463.out | refine bS_ ?_ GE464.out) | exact HB.out)⟩
      ·rw [if_neg c9] at H
       have c9b0 : (a0_4 == a1_4) = false := beq_eq_false_iff_ne.mpr c9
       have c9b1 : (a0_4 != a1_4) = true := bne_iff_ne.mpr c9
       obtain rfl := Option.some.inj H
       go_enter Try.func21, Try.ntmps21
       go_wp2_with (first | ((with_reducible refine gate_dst (N := 2) rfl ?_); refine box_event ?hg (N := 2) ?hd (cs := #[.int .i64 a0_0, .int .u64 a0_1, .int .u64 a0_2, .int .u64 a0_3, .int .u64 a0_4, .int .u64 a0_5, .int .u64 a0_6, .bool a0_7, .slice A0_8 l0_8.length c0_8, .slice A0_9 l0_9.length c0_9]) (t := 27) ?hr ?_; (case hd => rfl); (case hg => rfl); (case hr => first | (go_simp; done) | (go_simp; rfl)); intro gb463 hg w35 hbox hb; have n0_ := Aside0.mk (below_step (by repeat (first | (with_reducible first | exact HB.out | apply b1_ | apply b2_ | apply b3_) | exact HB.out)) hb); have n1_ := Aside0.mk (hbox); have n2_ := Aside0.mk ((by rw [hg]; exact (below_size (by repeat (first | (with_reducible first | exact HB.out | apply b1_ | apply b2_ | apply b3_) | exact HB.out))) : w.heap.size ≤ gb463)); have n3_ := Aside0.mk ((by rw [hg]; exact (below_size (by repeat (first | (with_reducible first | exact HB.out | apply b1_ | apply b2_ | apply b3_) | exact HB.out))) : w.heap.size ≤ gb463)); clear HB; have HB := n0_; have BK463 := n1_; have GW463 := n2_; have GE463 := n3_; clear n0_ n1_ n2_ n3_; clear hb hbox hg) | ((with_reducible refine gate_dst (N := 3) rfl ?_); refine box_event ?hg (N := 3) ?hd (cs := #[.int .i64 a1_0, .int .u64 a1_1, .int .u64 a1_2, .int .u64 a1_3, .int .u64 a1_4, .int .u64 a1_5, .int .u64 a1_6, .bool a1_7, .slice A1_8 l1_8.length c1_8, .slice A1_9 l1_9.length c1_9]) (t := 27) ?hr ?_; (case hd => rfl); (case hg => rfl); (case hr => first | (go_simp; done) | (go_simp; rfl)); intro gb464 hg w36 hbox hb; have n0_ := Aside0.mk (blk_below (g := gb463) (o := .cells #[.int .i64 a0_0, .int .u64 a0_1, .int .u64 a0_2, .int .u64 a0_3, .int .u64 a0_4, .int .u64 a0_5, .int .u64 a0_6, .bool a0_7, .slice A0_8 l0_8.length c0_8, .slice A0_9 l0_9.length c0_9] 27 (0, 0)) (by (with_reducible repeat first|apply bN_|apply bD_|apply bA_); exact BK463.out) hb); have n1_ := Aside0.mk (below_step (by repeat (first | (with_reducible first | exact HB.out | apply b1_ | apply b2_ | apply b3_ | refine bS_ ?_ GE463.out) | exact HB.out)) hb); have n2_ := Aside0.mk (hbox); have n3_ := Aside0.mk ((by rw [hg]; exact (below_size (by repeat (first | (with_reducible first | exact HB.out | apply b1_ | apply b2_ | apply b3_ | refine bS_ ?_ GE463.out) | exact HB.out))) : w.heap.size ≤ gb464)); have n4_ := Aside0.mk ((by rw [hg]; exact (below_size (by repeat (first | (with_reducible first | exact HB.out | apply b1_ | apply b2_ | apply b3_ | refine bS_ ?_ GE463.out) | exact HB.out))) : w.heap.size ≤ gb464)); have n5_ := Aside0.mk ((by rw [hg]; exact Nat.ne_of_lt (blk_lt (g := gb463) (o := .cells #[.int .i64 a0_0, .int .u64 a0_1, .int .u64 a0_2, .int .u64 a0_3, .int .u64 a0_4, .int .u64 a0_5, .int .u64 a0_6, .bool a0_7, .slice A0_8 l0_8.length c0_8, .slice A0_9 l0_9.length c0_9] 27 (0, 0)) (by (with_reducible repeat first|apply bN_|apply bD_|apply bA_); exact BK463.out)) : gb463 ≠ gb464)); have n6_ := Aside0.mk ((by rw [hg]; exact Nat.ne_of_gt (blk_lt (g := gb463) (o := .cells #[.int .i64 a0_0, .int .u64 a0_1, .int .u64 a0_2, .int .u64 a0_3, .int .u64 a0_4, .int .u64 a0_5, .int .u64 a0_6, .bool a0_7, .slice A0_8 l0_8.length c0_8, .slice A0_9 l0_9.length c0_9] 27 (0, 0)) (by (with_reducible repeat first|apply bN_|apply bD_|apply bA_); exact BK463.out)) : gb464 ≠ gb463)); clear BK463; clear HB; have BK463 := n0_; have HB := n1_; have BK464 := n2_; have GW464 := n3_; have GE464 := n4_; have NB463_464 := n5_; have NB464_463 := n6_; clear n0_ n1_ n2_ n3_ n4_ n5_ n6_; clear hb hbox hg; have hnb37 := NB463_464.out; have hnc37 := NB464_463.out; have hcz38_0 := cells10_ BK463.out; have hfz38_0 := froz10_ BK463.out; have hcz39_0 := cells10_ BK464.out; have hfz39_0 := froz9_ BK464.out; have hfz39_9 := blk_frozen BK464.out 9) | ((with_reducible refine gate_callee (f := 23) rfl ?_); refine goesL_ (some 11) rfl rfl Try.func23 (by kernel_rfl) rfl #[.slice A0_9 l0_9.length c0_9, .slice A1_9 l1_9.length c1_9] rfl (by (try simp only [List.map_toArray, List.map_cons, List.map_nil]); first | done | rfl | (simp only [List.length_drop, List.length_take]; rfl)) ?_; (with_reducible refine (wigwagref05_Spans.calls k _ _ l0_9 _ _ l1_9 true _ ?side1 ?side2 ?side3 ?side4 A3.out).mono ?_); (case side1 => repeat (first | exact (Kd.C_below HR0_9.out HB.out) | (with_reducible refine Kd.C_alloc ?_ _) | (with_reducible refine Kd.C_drewN ?_ _) | (with_reducible refine Kd.C_drew ?_))); (case side2 => exact HC0_9.out); (case side3 => repeat (first | exact (Kd.C_below HR1_9.out HB.out) | (with_reducible refine Kd.C_alloc ?_ _) | (with_reducible refine Kd.C_drewN ?_ _) | (with_reducible refine Kd.C_drew ?_))); (case side4 => exact HC1_9.out); rintro e w' ⟨rfl, ⟨nd, rfl⟩⟩; refine ⟨_, rfl, ?_⟩))
       go_ret
       exact ⟨by first | rfl | (simp [errW_none, errW_some] <;> rfl) | (simp [*, errW_none, errW_some] <;> rfl), by repeat (first | (with_reducible first | exact HB.out | apply b1_ | apply b2_ | apply b3_ | refine bS_ ?_ GE463.out | refine bS_ ?_ GE464.out) | exact HB.out)⟩
     ·replace c8 := Bool.eq_false_iff.mpr c8
      subst c8
      have H1 : (some false) = some r := by rw [if_neg (show ¬ (false = true) by decide)] at H; exact H
      clear H
      have H := H1
      clear H1
      obtain rfl := Option.some.inj H
      go_enter Try.func21, Try.ntmps21
      go_wp2_with (first | ((with_reducible refine gate_dst (N := 2) rfl ?_); refine box_event ?hg (N := 2) ?hd (cs := #[.int .i64 a0_0, .int .u64 a0_1, .int .u64 a0_2, .int .u64 a0_3, .int .u64 a0_4, .int .u64 a0_5, .int .u64 a0_6, .bool a0_7, .slice A0_8 l0_8.length c0_8, .slice A0_9 l0_9.length c0_9]) (t := 27) ?hr ?_; (case hd => rfl); (case hg => rfl); (case hr => first | (go_simp; done) | (go_simp; rfl)); intro gb463 hg w40 hbox hb; have n0_ := Aside0.mk (below_step (by repeat (first | (with_reducible first | exact HB.out | apply b1_ | apply b2_ | apply b3_) | exact HB.out)) hb); have n1_ := Aside0.mk (hbox); have n2_ := Aside0.mk ((by rw [hg]; exact (below_size (by repeat (first | (with_reducible first | exact HB.out | apply b1_ | apply b2_ | apply b3_) | exact HB.out))) : w.heap.size ≤ gb463)); have n3_ := Aside0.mk ((by rw [hg]; exact (below_size (by repeat (first | (with_reducible first | exact HB.out | apply b1_ | apply b2_ | apply b3_) | exact HB.out))) : w.heap.size ≤ gb463)); clear HB; have HB := n0_; have BK463 := n1_; have GW463 := n2_; have GE463 := n3_; clear n0_ n1_ n2_ n3_; clear hb hbox hg) | ((with_reducible refine gate_dst (N := 3) rfl ?_); refine box_event ?hg (N := 3) ?hd (cs := #[.int .i64 a1_0, .int .u64 a1_1, .int .u64 a1_2, .int .u64 a1_3, .int .u64 a1_4, .int .u64 a1_5, .int .u64 a1_6, .bool a1_7, .slice A1_8 l1_8.length c1_8, .slice A1_9 l1_9.length c1_9]) (t := 27) ?hr ?_; (case hd => rfl); (case hg => rfl); (case hr => first | (go_simp; done) | (go_simp; rfl)); intro gb464 hg w41 hbox hb; have n0_ := Aside0.mk (blk_below (g := gb463) (o := .cells #[.int .i64 a0_0, .int .u64 a0_1, .int .u64 a0_2, .int .u64 a0_3, .int .u64 a0_4, .int .u64 a0_5, .int .u64 a0_6, .bool a0_7, .slice A0_8 l0_8.length c0_8, .slice A0_9 l0_9.length c0_9] 27 (0, 0)) (by (with_reducible repeat first|apply bN_|apply bD_|apply bA_); exact BK463.out) hb); have n1_ := Aside0.mk (below_step (by repeat (first | (with_reducible first | exact HB.out | apply b1_ | apply b2_ | apply b3_ | refine bS_ ?_ GE463.out) | exact HB.out)) hb); have n2_ := Aside0.mk (hbox); have n3_ := Aside0.mk ((by rw [hg]; exact (below_size (by repeat (first | (with_reducible first | exact HB.out | apply b1_ | apply b2_ | apply b3_ | refine bS_ ?_ GE463.out) | exact HB.out))) : w.heap.size ≤ gb464)); have n4_ := Aside0.mk ((by rw [hg]; exact (below_size (by repeat (first | (with_reducible first | exact HB.out | apply b1_ | apply b2_ | apply b3_ | refine bS_ ?_ GE463.out) | exact HB.out))) : w.heap.size ≤ gb464)); have n5_ := Aside0.mk ((by rw [hg]; exact Nat.ne_of_lt (blk_lt (g := gb463) (o := .cells #[.int .i64 a0_0, .int .u64 a0_1, .int .u64 a0_2, .int .u64 a0_3, .int .u64 a0_4, .int .u64 a0_5, .int .u64 a0_6, .bool a0_7, .slice A0_8 l0_8.length c0_8, .slice A0_9 l0_9.length c0_9] 27 (0, 0)) (by (with_reducible repeat first|apply bN_|apply bD_|apply bA_); exact BK463.out)) : gb463 ≠ gb464)); have n6_ := Aside0.mk ((by rw [hg]; exact Nat.ne_of_gt (blk_lt (g := gb463) (o := .cells #[.int .i64 a0_0, .int .u64 a0_1, .int .u64 a0_2, .int .u64 a0_3, .int .u64 a0_4, .int .u64 a0_5, .int .u64 a0_6, .bool a0_7, .slice A0_8 l0_8.length c0_8, .slice A0_9 l0_9.length c0_9] 27 (0, 0)) (by (with_reducible repeat first|apply bN_|apply bD_|apply bA_); exact BK463.out)) : gb464 ≠ gb463)); clear BK463; clear HB; have BK463 := n0_; have HB := n1_; have BK464 := n2_; have GW464 := n3_; have GE464 := n4_; have NB463_464 := n5_; have NB464_463 := n6_; clear n0_ n1_ n2_ n3_ n4_ n5_ n6_; clear hb hbox hg; have hnb42 := NB463_464.out; have hnc42 := NB464_463.out; have hcz43_0 := cells10_ BK463.out; have hfz43_0 := froz10_ BK463.out; have hcz44_0 := cells10_ BK464.out; have hfz44_0 := froz9_ BK464.out; have hfz44_9 := blk_frozen BK464.out 9) | ((with_reducible refine gate_callee (f := 23) rfl ?_); refine goesL_ (some 11) rfl rfl Try.func23 (by kernel_rfl) rfl #[.slice A0_9 l0_9.length c0_9, .slice A1_9 l1_9.length c1_9] rfl (by (try simp only [List.map_toArray, List.map_cons, List.map_nil]); first | done | rfl | (simp only [List.length_drop, List.length_take]; rfl)) ?_; (with_reducible refine (wigwagref05_Spans.calls k _ _ l0_9 _ _ l1_9 false _ ?side1 ?side2 ?side3 ?side4 A3.out).mono ?_); (case side1 => repeat (first | exact (Kd.C_below HR0_9.out HB.out) | (with_reducible refine Kd.C_alloc ?_ _) | (with_reducible refine Kd.C_drewN ?_ _) | (with_reducible refine Kd.C_drew ?_))); (case side2 => exact HC0_9.out); (case side3 => repeat (first | exact (Kd.C_below HR1_9.out HB.out) | (with_reducible refine Kd.C_alloc ?_ _) | (with_reducible refine Kd.C_drewN ?_ _) | (with_reducible refine Kd.C_drew ?_))); (case side4 => exact HC1_9.out); rintro e w' ⟨rfl, ⟨nd, rfl⟩⟩; refine ⟨_, rfl, ?_⟩))
      go_ret
      exact ⟨by first | rfl | (simp [errW_none, errW_some] <;> rfl) | (simp [*, errW_none, errW_some] <;> rfl), by repeat (first | (with_reducible first | exact HB.out | apply b1_ | apply b2_ | apply b3_ | refine bS_ ?_ GE463.out | refine bS_ ?_ GE464.out) | exact HB.out)⟩
    ·rw [if_neg c7] at H
     have c7b0 : (a0_3 == a1_3) = false := beq_eq_false_iff_ne.mpr c7
     have c7b1 : (a0_3 != a1_3) = true := bne_iff_ne.mpr c7
     by_cases c45 : t465 = true
     ·subst c45
      have H1 : (some false) = some r := by rw [if_pos rfl] at H; exact H
      clear H
      have H := H1
      clear H1
      obtain rfl := Option.some.inj H
      go_enter Try.func21, Try.ntmps21
      go_wp2_with (first | ((with_reducible refine gate_dst (N := 2) rfl ?_); refine box_event ?hg (N := 2) ?hd (cs := #[.int .i64 a0_0, .int .u64 a0_1, .int .u64 a0_2, .int .u64 a0_3, .int .u64 a0_4, .int .u64 a0_5, .int .u64 a0_6, .bool a0_7, .slice A0_8 l0_8.length c0_8, .slice A0_9 l0_9.length c0_9]) (t := 27) ?hr ?_; (case hd => rfl); (case hg => rfl); (case hr => first | (go_simp; done) | (go_simp; rfl)); intro gb463 hg w46 hbox hb; have n0_ := Aside0.mk (below_step (by repeat (first | (with_reducible first | exact HB.out | apply b1_ | apply b2_ | apply b3_) | exact HB.out)) hb); have n1_ := Aside0.mk (hbox); have n2_ := Aside0.mk ((by rw [hg]; exact (below_size (by repeat (first | (with_reducible first | exact HB.out | apply b1_ | apply b2_ | apply b3_) | exact HB.out))) : w.heap.size ≤ gb463)); have n3_ := Aside0.mk ((by rw [hg]; exact (below_size (by repeat (first | (with_reducible first | exact HB.out | apply b1_ | apply b2_ | apply b3_) | exact HB.out))) : w.heap.size ≤ gb463)); clear HB; have HB := n0_; have BK463 := n1_; have GW463 := n2_; have GE463 := n3_; clear n0_ n1_ n2_ n3_; clear hb hbox hg) | ((with_reducible refine gate_dst (N := 3) rfl ?_); refine box_event ?hg (N := 3) ?hd (cs := #[.int .i64 a1_0, .int .u64 a1_1, .int .u64 a1_2, .int .u64 a1_3, .int .u64 a1_4, .int .u64 a1_5, .int .u64 a1_6, .bool a1_7, .slice A1_8 l1_8.length c1_8, .slice A1_9 l1_9.length c1_9]) (t := 27) ?hr ?_; (case hd => rfl); (case hg => rfl); (case hr => first | (go_simp; done) | (go_simp; rfl)); intro gb464 hg w47 hbox hb; have n0_ := Aside0.mk (blk_below (g := gb463) (o := .cells #[.int .i64 a0_0, .int .u64 a0_1, .int .u64 a0_2, .int .u64 a0_3, .int .u64 a0_4, .int .u64 a0_5, .int .u64 a0_6, .bool a0_7, .slice A0_8 l0_8.length c0_8, .slice A0_9 l0_9.length c0_9] 27 (0, 0)) (by (with_reducible repeat first|apply bN_|apply bD_|apply bA_); exact BK463.out) hb); have n1_ := Aside0.mk (below_step (by repeat (first | (with_reducible first | exact HB.out | apply b1_ | apply b2_ | apply b3_ | refine bS_ ?_ GE463.out) | exact HB.out)) hb); have n2_ := Aside0.mk (hbox); have n3_ := Aside0.mk ((by rw [hg]; exact (below_size (by repeat (first | (with_reducible first | exact HB.out | apply b1_ | apply b2_ | apply b3_ | refine bS_ ?_ GE463.out) | exact HB.out))) : w.heap.size ≤ gb464)); have n4_ := Aside0.mk ((by rw [hg]; exact (below_size (by repeat (first | (with_reducible first | exact HB.out | apply b1_ | apply b2_ | apply b3_ | refine bS_ ?_ GE463.out) | exact HB.out))) : w.heap.size ≤ gb464)); have n5_ := Aside0.mk ((by rw [hg]; exact Nat.ne_of_lt (blk_lt (g := gb463) (o := .cells #[.int .i64 a0_0, .int .u64 a0_1, .int .u64 a0_2, .int .u64 a0_3, .int .u64 a0_4, .int .u64 a0_5, .int .u64 a0_6, .bool a0_7, .slice A0_8 l0_8.length c0_8, .slice A0_9 l0_9.length c0_9] 27 (0, 0)) (by (with_reducible repeat first|apply bN_|apply bD_|apply bA_); exact BK463.out)) : gb463 ≠ gb464)); have n6_ := Aside0.mk ((by rw [hg]; exact Nat.ne_of_gt (blk_lt (g := gb463) (o := .cells #[.int .i64 a0_0, .int .u64 a0_1, .int .u64 a0_2, .int .u64 a0_3, .int .u64 a0_4, .int .u64 a0_5, .int .u64 a0_6, .bool a0_7, .slice A0_8 l0_8.length c0_8, .slice A0_9 l0_9.length c0_9] 27 (0, 0)) (by (with_reducible repeat first|apply bN_|apply bD_|apply bA_); exact BK463.out)) : gb464 ≠ gb463)); clear BK463; clear HB; have BK463 := n0_; have HB := n1_; have BK464 := n2_; have GW464 := n3_; have GE464 := n4_; have NB463_464 := n5_; have NB464_463 := n6_; clear n0_ n1_ n2_ n3_ n4_ n5_ n6_; clear hb hbox hg; have hnb48 := NB463_464.out; have hnc48 := NB464_463.out; have hcz49_0 := cells10_ BK463.out; have hfz49_0 := froz10_ BK463.out; have hcz50_0 := cells10_ BK464.out; have hfz50_0 := froz9_ BK464.out; have hfz50_9 := blk_frozen BK464.out 9) | ((with_reducible refine gate_callee (f := 23) rfl ?_); refine goesL_ (some 11) rfl rfl Try.func23 (by kernel_rfl) rfl #[.slice A0_9 l0_9.length c0_9, .slice A1_9 l1_9.length c1_9] rfl (by (try simp only [List.map_toArray, List.map_cons, List.map_nil]); first | done | rfl | (simp only [List.length_drop, List.length_take]; rfl)) ?_; (with_reducible refine (wigwagref05_Spans.calls k _ _ l0_9 _ _ l1_9 true _ ?side1 ?side2 ?side3 ?side4 A3.out).mono ?_); (case side1 => repeat (first | exact (Kd.C_below HR0_9.out HB.out) | (with_reducible refine Kd.C_alloc ?_ _) | (with_reducible refine Kd.C_drewN ?_ _) | (with_reducible refine Kd.C_drew ?_))); (case side2 => exact HC0_9.out); (case side3 => repeat (first | exact (Kd.C_below HR1_9.out HB.out) | (with_reducible refine Kd.C_alloc ?_ _) | (with_reducible refine Kd.C_drewN ?_ _) | (with_reducible refine Kd.C_drew ?_))); (case side4 => exact HC1_9.out); rintro e w' ⟨rfl, ⟨nd, rfl⟩⟩; refine ⟨_, rfl, ?_⟩))
      go_ret
      exact ⟨by first | rfl | (simp [errW_none, errW_some] <;> rfl) | (simp [*, errW_none, errW_some] <;> rfl), by repeat (first | (with_reducible first | exact HB.out | apply b1_ | apply b2_ | apply b3_ | refine bS_ ?_ GE463.out | refine bS_ ?_ GE464.out) | exact HB.out)⟩
     ·replace c45 := Bool.eq_false_iff.mpr c45
      subst c45
      have H1 : (some false) = some r := by rw [if_neg (show ¬ (false = true) by decide)] at H; exact H
      clear H
      have H := H1
      clear H1
      obtain rfl := Option.some.inj H
      go_enter Try.func21, Try.ntmps21
      go_wp2_with (first | ((with_reducible refine gate_dst (N := 2) rfl ?_); refine box_event ?hg (N := 2) ?hd (cs := #[.int .i64 a0_0, .int .u64 a0_1, .int .u64 a0_2, .int .u64 a0_3, .int .u64 a0_4, .int .u64 a0_5, .int .u64 a0_6, .bool a0_7, .slice A0_8 l0_8.length c0_8, .slice A0_9 l0_9.length c0_9]) (t := 27) ?hr ?_; (case hd => rfl); (case hg => rfl); (case hr => first | (go_simp; done) | (go_simp; rfl)); intro gb463 hg w51 hbox hb; have n0_ := Aside0.mk (below_step (by repeat (first | (with_reducible first | exact HB.out | apply b1_ | apply b2_ | apply b3_) | exact HB.out)) hb); have n1_ := Aside0.mk (hbox); have n2_ := Aside0.mk ((by rw [hg]; exact (below_size (by repeat (first | (with_reducible first | exact HB.out | apply b1_ | apply b2_ | apply b3_) | exact HB.out))) : w.heap.size ≤ gb463)); have n3_ := Aside0.mk ((by rw [hg]; exact (below_size (by repeat (first | (with_reducible first | exact HB.out | apply b1_ | apply b2_ | apply b3_) | exact HB.out))) : w.heap.size ≤ gb463)); clear HB; have HB := n0_; have BK463 := n1_; have GW463 := n2_; have GE463 := n3_; clear n0_ n1_ n2_ n3_; clear hb hbox hg) | ((with_reducible refine gate_dst (N := 3) rfl ?_); refine box_event ?hg (N := 3) ?hd (cs := #[.int .i64 a1_0, .int .u64 a1_1, .int .u64 a1_2, .int .u64 a1_3, .int .u64 a1_4, .int .u64 a1_5, .int .u64 a1_6, .bool a1_7, .slice A1_8 l1_8.length c1_8, .slice A1_9 l1_9.length c1_9]) (t := 27) ?hr ?_; (case hd => rfl); (case hg => rfl); (case hr => first | (go_simp; done) | (go_simp; rfl)); intro gb464 hg w52 hbox hb; have n0_ := Aside0.mk (blk_below (g := gb463) (o := .cells #[.int .i64 a0_0, .int .u64 a0_1, .int .u64 a0_2, .int .u64 a0_3, .int .u64 a0_4, .int .u64 a0_5, .int .u64 a0_6, .bool a0_7, .slice A0_8 l0_8.length c0_8, .slice A0_9 l0_9.length c0_9] 27 (0, 0)) (by (with_reducible repeat first|apply bN_|apply bD_|apply bA_); exact BK463.out) hb); have n1_ := Aside0.mk (below_step (by repeat (first | (with_reducible first | exact HB.out | apply b1_ | apply b2_ | apply b3_ | refine bS_ ?_ GE463.out) | exact HB.out)) hb); have n2_ := Aside0.mk (hbox); have n3_ := Aside0.mk ((by rw [hg]; exact (below_size (by repeat (first | (with_reducible first | exact HB.out | apply b1_ | apply b2_ | apply b3_ | refine bS_ ?_ GE463.out) | exact HB.out))) : w.heap.size ≤ gb464)); have n4_ := Aside0.mk ((by rw [hg]; exact (below_size (by repeat (first | (with_reducible first | exact HB.out | apply b1_ | apply b2_ | apply b3_ | refine bS_ ?_ GE463.out) | exact HB.out))) : w.heap.size ≤ gb464)); have n5_ := Aside0.mk ((by rw [hg]; exact Nat.ne_of_lt (blk_lt (g := gb463) (o := .cells #[.int .i64 a0_0, .int .u64 a0_1, .int .u64 a0_2, .int .u64 a0_3, .int .u64 a0_4, .int .u64 a0_5, .int .u64 a0_6, .bool a0_7, .slice A0_8 l0_8.length c0_8, .slice A0_9 l0_9.length c0_9] 27 (0, 0)) (by (with_reducible repeat first|apply bN_|apply bD_|apply bA_); exact BK463.out)) : gb463 ≠ gb464)); have n6_ := Aside0.mk ((by rw [hg]; exact Nat.ne_of_gt (blk_lt (g := gb463) (o := .cells #[.int .i64 a0_0, .int .u64 a0_1, .int .u64 a0_2, .int .u64 a0_3, .int .u64 a0_4, .int .u64 a0_5, .int .u64 a0_6, .bool a0_7, .slice A0_8 l0_8.length c0_8, .slice A0_9 l0_9.length c0_9] 27 (0, 0)) (by (with_reducible repeat first|apply bN_|apply bD_|apply bA_); exact BK463.out)) : gb464 ≠ gb463)); clear BK463; clear HB; have BK463 := n0_; have HB := n1_; have BK464 := n2_; have GW464 := n3_; have GE464 := n4_; have NB463_464 := n5_; have NB464_463 := n6_; clear n0_ n1_ n2_ n3_ n4_ n5_ n6_; clear hb hbox hg; have hnb53 := NB463_464.out; have hnc53 := NB464_463.out; have hcz54_0 := cells10_ BK463.out; have hfz54_0 := froz10_ BK463.out; have hcz55_0 := cells10_ BK464.out; have hfz55_0 := froz9_ BK464.out; have hfz55_9 := blk_frozen BK464.out 9) | ((with_reducible refine gate_callee (f := 23) rfl ?_); refine goesL_ (some 11) rfl rfl Try.func23 (by kernel_rfl) rfl #[.slice A0_9 l0_9.length c0_9, .slice A1_9 l1_9.length c1_9] rfl (by (try simp only [List.map_toArray, List.map_cons, List.map_nil]); first | done | rfl | (simp only [List.length_drop, List.length_take]; rfl)) ?_; (with_reducible refine (wigwagref05_Spans.calls k _ _ l0_9 _ _ l1_9 false _ ?side1 ?side2 ?side3 ?side4 A3.out).mono ?_); (case side1 => repeat (first | exact (Kd.C_below HR0_9.out HB.out) | (with_reducible refine Kd.C_alloc ?_ _) | (with_reducible refine Kd.C_drewN ?_ _) | (with_reducible refine Kd.C_drew ?_))); (case side2 => exact HC0_9.out); (case side3 => repeat (first | exact (Kd.C_below HR1_9.out HB.out) | (with_reducible refine Kd.C_alloc ?_ _) | (with_reducible refine Kd.C_drewN ?_ _) | (with_reducible refine Kd.C_drew ?_))); (case side4 => exact HC1_9.out); rintro e w' ⟨rfl, ⟨nd, rfl⟩⟩; refine ⟨_, rfl, ?_⟩))
      go_ret
      exact ⟨by first | rfl | (simp [errW_none, errW_some] <;> rfl) | (simp [*, errW_none, errW_some] <;> rfl), by repeat (first | (with_reducible first | exact HB.out | apply b1_ | apply b2_ | apply b3_ | refine bS_ ?_ GE463.out | refine bS_ ?_ GE464.out) | exact HB.out)⟩
   ·rw [if_neg c6] at H
    have c6b0 : (a0_2 == a1_2) = false := beq_eq_false_iff_ne.mpr c6
    have c6b1 : (a0_2 != a1_2) = true := bne_iff_ne.mpr c6
    by_cases c56 : t465 = true
    ·subst c56
     have H1 : (some false) = some r := by rw [if_pos rfl] at H; exact H
     clear H
     have H := H1
     clear H1
     obtain rfl := Option.some.inj H
     go_enter Try.func21, Try.ntmps21
     go_wp2_with (first | ((with_reducible refine gate_dst (N := 2) rfl ?_); refine box_event ?hg (N := 2) ?hd (cs := #[.int .i64 a0_0, .int .u64 a0_1, .int .u64 a0_2, .int .u64 a0_3, .int .u64 a0_4, .int .u64 a0_5, .int .u64 a0_6, .bool a0_7, .slice A0_8 l0_8.length c0_8, .slice A0_9 l0_9.length c0_9]) (t := 27) ?hr ?_; (case hd => rfl); (case hg => rfl); (case hr => first | (go_simp; done) | (go_simp; rfl)); intro gb463 hg w57 hbox hb; have n0_ := Aside0.mk (below_step (by repeat (first | (with_reducible first | exact HB.out | apply b1_ | apply b2_ | apply b3_) | exact HB.out)) hb); have n1_ := Aside0.mk (hbox); have n2_ := Aside0.mk ((by rw [hg]; exact (below_size (by repeat (first | (with_reducible first | exact HB.out | apply b1_ | apply b2_ | apply b3_) | exact HB.out))) : w.heap.size ≤ gb463)); have n3_ := Aside0.mk ((by rw [hg]; exact (below_size (by repeat (first | (with_reducible first | exact HB.out | apply b1_ | apply b2_ | apply b3_) | exact HB.out))) : w.heap.size ≤ gb463)); clear HB; have HB := n0_; have BK463 := n1_; have GW463 := n2_; have GE463 := n3_; clear n0_ n1_ n2_ n3_; clear hb hbox hg) | ((with_reducible refine gate_dst (N := 3) rfl ?_); refine box_event ?hg (N := 3) ?hd (cs := #[.int .i64 a1_0, .int .u64 a1_1, .int .u64 a1_2, .int .u64 a1_3, .int .u64 a1_4, .int .u64 a1_5, .int .u64 a1_6, .bool a1_7, .slice A1_8 l1_8.length c1_8, .slice A1_9 l1_9.length c1_9]) (t := 27) ?hr ?_; (case hd => rfl); (case hg => rfl); (case hr => first | (go_simp; done) | (go_simp; rfl)); intro gb464 hg w58 hbox hb; have n0_ := Aside0.mk (blk_below (g := gb463) (o := .cells #[.int .i64 a0_0, .int .u64 a0_1, .int .u64 a0_2, .int .u64 a0_3, .int .u64 a0_4, .int .u64 a0_5, .int .u64 a0_6, .bool a0_7, .slice A0_8 l0_8.length c0_8, .slice A0_9 l0_9.length c0_9] 27 (0, 0)) (by (with_reducible repeat first|apply bN_|apply bD_|apply bA_); exact BK463.out) hb); have n1_ := Aside0.mk (below_step (by repeat (first | (with_reducible first | exact HB.out | apply b1_ | apply b2_ | apply b3_ | refine bS_ ?_ GE463.out) | exact HB.out)) hb); have n2_ := Aside0.mk (hbox); have n3_ := Aside0.mk ((by rw [hg]; exact (below_size (by repeat (first | (with_reducible first | exact HB.out | apply b1_ | apply b2_ | apply b3_ | refine bS_ ?_ GE463.out) | exact HB.out))) : w.heap.size ≤ gb464)); have n4_ := Aside0.mk ((by rw [hg]; exact (below_size (by repeat (first | (with_reducible first | exact HB.out | apply b1_ | apply b2_ | apply b3_ | refine bS_ ?_ GE463.out) | exact HB.out))) : w.heap.size ≤ gb464)); have n5_ := Aside0.mk ((by rw [hg]; exact Nat.ne_of_lt (blk_lt (g := gb463) (o := .cells #[.int .i64 a0_0, .int .u64 a0_1, .int .u64 a0_2, .int .u64 a0_3, .int .u64 a0_4, .int .u64 a0_5, .int .u64 a0_6, .bool a0_7, .slice A0_8 l0_8.length c0_8, .slice A0_9 l0_9.length c0_9] 27 (0, 0)) (by (with_reducible repeat first|apply bN_|apply bD_|apply bA_); exact BK463.out)) : gb463 ≠ gb464)); have n6_ := Aside0.mk ((by rw [hg]; exact Nat.ne_of_gt (blk_lt (g := gb463) (o := .cells #[.int .i64 a0_0, .int .u64 a0_1, .int .u64 a0_2, .int .u64 a0_3, .int .u64 a0_4, .int .u64 a0_5, .int .u64 a0_6, .bool a0_7, .slice A0_8 l0_8.length c0_8, .slice A0_9 l0_9.length c0_9] 27 (0, 0)) (by (with_reducible repeat first|apply bN_|apply bD_|apply bA_); exact BK463.out)) : gb464 ≠ gb463)); clear BK463; clear HB; have BK463 := n0_; have HB := n1_; have BK464 := n2_; have GW464 := n3_; have GE464 := n4_; have NB463_464 := n5_; have NB464_463 := n6_; clear n0_ n1_ n2_ n3_ n4_ n5_ n6_; clear hb hbox hg; have hnb59 := NB463_464.out; have hnc59 := NB464_463.out; have hcz60_0 := cells10_ BK463.out; have hfz60_0 := froz10_ BK463.out; have hcz61_0 := cells10_ BK464.out; have hfz61_0 := froz9_ BK464.out; have hfz61_9 := blk_frozen BK464.out 9) | ((with_reducible refine gate_callee (f := 23) rfl ?_); refine goesL_ (some 11) rfl rfl Try.func23 (by kernel_rfl) rfl #[.slice A0_9 l0_9.length c0_9, .slice A1_9 l1_9.length c1_9] rfl (by (try simp only [List.map_toArray, List.map_cons, List.map_nil]); first | done | rfl | (simp only [List.length_drop, List.length_take]; rfl)) ?_; (with_reducible refine (wigwagref05_Spans.calls k _ _ l0_9 _ _ l1_9 true _ ?side1 ?side2 ?side3 ?side4 A3.out).mono ?_); (case side1 => repeat (first | exact (Kd.C_below HR0_9.out HB.out) | (with_reducible refine Kd.C_alloc ?_ _) | (with_reducible refine Kd.C_drewN ?_ _) | (with_reducible refine Kd.C_drew ?_))); (case side2 => exact HC0_9.out); (case side3 => repeat (first | exact (Kd.C_below HR1_9.out HB.out) | (with_reducible refine Kd.C_alloc ?_ _) | (with_reducible refine Kd.C_drewN ?_ _) | (with_reducible refine Kd.C_drew ?_))); (case side4 => exact HC1_9.out); rintro e w' ⟨rfl, ⟨nd, rfl⟩⟩; refine ⟨_, rfl, ?_⟩))
     go_ret
     exact ⟨by first | rfl | (simp [errW_none, errW_some] <;> rfl) | (simp [*, errW_none, errW_some] <;> rfl), by repeat (first | (with_reducible first | exact HB.out | apply b1_ | apply b2_ | apply b3_ | refine bS_ ?_ GE463.out | refine bS_ ?_ GE464.out) | exact HB.out)⟩
    ·replace c56 := Bool.eq_false_iff.mpr c56
     subst c56
     have H1 : (some false) = some r := by rw [if_neg (show ¬ (false = true) by decide)] at H; exact H
     clear H
     have H := H1
     clear H1
     obtain rfl := Option.some.inj H
     go_enter Try.func21, Try.ntmps21
     go_wp2_with (first | ((with_reducible refine gate_dst (N := 2) rfl ?_); refine box_event ?hg (N := 2) ?hd (cs := #[.int .i64 a0_0, .int .u64 a0_1, .int .u64 a0_2, .int .u64 a0_3, .int .u64 a0_4, .int .u64 a0_5, .int .u64 a0_6, .bool a0_7, .slice A0_8 l0_8.length c0_8, .slice A0_9 l0_9.length c0_9]) (t := 27) ?hr ?_; (case hd => rfl); (case hg => rfl); (case hr => first | (go_simp; done) | (go_simp; rfl)); intro gb463 hg w62 hbox hb; have n0_ := Aside0.mk (below_step (by repeat (first | (with_reducible first | exact HB.out | apply b1_ | apply b2_ | apply b3_) | exact HB.out)) hb); have n1_ := Aside0.mk (hbox); have n2_ := Aside0.mk ((by rw [hg]; exact (below_size (by repeat (first | (with_reducible first | exact HB.out | apply b1_ | apply b2_ | apply b3_) | exact HB.out))) : w.heap.size ≤ gb463)); have n3_ := Aside0.mk ((by rw [hg]; exact (below_size (by repeat (first | (with_reducible first | exact HB.out | apply b1_ | apply b2_ | apply b3_) | exact HB.out))) : w.heap.size ≤ gb463)); clear HB; have HB := n0_; have BK463 := n1_; have GW463 := n2_; have GE463 := n3_; clear n0_ n1_ n2_ n3_; clear hb hbox hg) | ((with_reducible refine gate_dst (N := 3) rfl ?_); refine box_event ?hg (N := 3) ?hd (cs := #[.int .i64 a1_0, .int .u64 a1_1, .int .u64 a1_2, .int .u64 a1_3, .int .u64 a1_4, .int .u64 a1_5, .int .u64 a1_6, .bool a1_7, .slice A1_8 l1_8.length c1_8, .slice A1_9 l1_9.length c1_9]) (t := 27) ?hr ?_; (case hd => rfl); (case hg => rfl); (case hr => first | (go_simp; done) | (go_simp; rfl)); intro gb464 hg w63 hbox hb; have n0_ := Aside0.mk (blk_below (g := gb463) (o := .cells #[.int .i64 a0_0, .int .u64 a0_1, .int .u64 a0_2, .int .u64 a0_3, .int .u64 a0_4, .int .u64 a0_5, .int .u64 a0_6, .bool a0_7, .slice A0_8 l0_8.length c0_8, .slice A0_9 l0_9.length c0_9] 27 (0, 0)) (by (with_reducible repeat first|apply bN_|apply bD_|apply bA_); exact BK463.out) hb); have n1_ := Aside0.mk (below_step (by repeat (first | (with_reducible first | exact HB.out | apply b1_ | apply b2_ | apply b3_ | refine bS_ ?_ GE463.out) | exact HB.out)) hb); have n2_ := Aside0.mk (hbox); have n3_ := Aside0.mk ((by rw [hg]; exact (below_size (by repeat (first | (with_reducible first | exact HB.out | apply b1_ | apply b2_ | apply b3_ | refine bS_ ?_ GE463.out) | exact HB.out))) : w.heap.size ≤ gb464)); have n4_ := Aside0.mk ((by rw [hg]; exact (below_size (by repeat (first | (with_reducible first | exact HB.out | apply b1_ | apply b2_ | apply b3_ | refine bS_ ?_ GE463.out) | exact HB.out))) : w.heap.size ≤ gb464)); have n5_ := Aside0.mk ((by rw [hg]; exact Nat.ne_of_lt (blk_lt (g := gb463) (o := .cells #[.int .i64 a0_0, .int .u64 a0_1, .int .u64 a0_2, .int .u64 a0_3, .int .u64 a0_4, .int .u64 a0_5, .int .u64 a0_6, .bool a0_7, .slice A0_8 l0_8.length c0_8, .slice A0_9 l0_9.length c0_9] 27 (0, 0)) (by (with_reducible repeat first|apply bN_|apply bD_|apply bA_); exact BK463.out)) : gb463 ≠ gb464)); have n6_ := Aside0.mk ((by rw [hg]; exact Nat.ne_of_gt (blk_lt (g := gb463) (o := .cells #[.int .i64 a0_0, .int .u64 a0_1, .int .u64 a0_2, .int .u64 a0_3, .int .u64 a0_4, .int .u64 a0_5, .int .u64 a0_6, .bool a0_7, .slice A0_8 l0_8.length c0_8, .slice A0_9 l0_9.length c0_9] 27 (0, 0)) (by (with_reducible repeat first|apply bN_|apply bD_|apply bA_); exact BK463.out)) : gb464 ≠ gb463)); clear BK463; clear HB; have BK463 := n0_; have HB := n1_; have BK464 := n2_; have GW464 := n3_; have GE464 := n4_; have NB463_464 := n5_; have NB464_463 := n6_; clear n0_ n1_ n2_ n3_ n4_ n5_ n6_; clear hb hbox hg; have hnb64 := NB463_464.out; have hnc64 := NB464_463.out; have hcz65_0 := cells10_ BK463.out; have hfz65_0 := froz10_ BK463.out; have hcz66_0 := cells10_ BK464.out; have hfz66_0 := froz9_ BK464.out; have hfz66_9 := blk_frozen BK464.out 9) | ((with_reducible refine gate_callee (f := 23) rfl ?_); refine goesL_ (some 11) rfl rfl Try.func23 (by kernel_rfl) rfl #[.slice A0_9 l0_9.length c0_9, .slice A1_9 l1_9.length c1_9] rfl (by (try simp only [List.map_toArray, List.map_cons, List.map_nil]); first | done | rfl | (simp only [List.length_drop, List.length_take]; rfl)) ?_; (with_reducible refine (wigwagref05_Spans.calls k _ _ l0_9 _ _ l1_9 false _ ?side1 ?side2 ?side3 ?side4 A3.out).mono ?_); (case side1 => repeat (first | exact (Kd.C_below HR0_9.out HB.out) | (with_reducible refine Kd.C_alloc ?_ _) | (with_reducible refine Kd.C_drewN ?_ _) | (with_reducible refine Kd.C_drew ?_))); (case side2 => exact HC0_9.out); (case side3 => repeat (first | exact (Kd.C_below HR1_9.out HB.out) | (with_reducible refine Kd.C_alloc ?_ _) | (with_reducible refine Kd.C_drewN ?_ _) | (with_reducible refine Kd.C_drew ?_))); (case side4 => exact HC1_9.out); rintro e w' ⟨rfl, ⟨nd, rfl⟩⟩; refine ⟨_, rfl, ?_⟩))
     go_ret
     exact ⟨by first | rfl | (simp [errW_none, errW_some] <;> rfl) | (simp [*, errW_none, errW_some] <;> rfl), by repeat (first | (with_reducible first | exact HB.out | apply b1_ | apply b2_ | apply b3_ | refine bS_ ?_ GE463.out | refine bS_ ?_ GE464.out) | exact HB.out)⟩
  ·rw [if_neg c5] at H
   have c5b0 : (a0_1 == a1_1) = false := beq_eq_false_iff_ne.mpr c5
   have c5b1 : (a0_1 != a1_1) = true := bne_iff_ne.mpr c5
   by_cases c67 : t465 = true
   ·subst c67
    have H1 : (some false) = some r := by rw [if_pos rfl] at H; exact H
    clear H
    have H := H1
    clear H1
    obtain rfl := Option.some.inj H
    go_enter Try.func21, Try.ntmps21
    go_wp2_with (first | ((with_reducible refine gate_dst (N := 2) rfl ?_); refine box_event ?hg (N := 2) ?hd (cs := #[.int .i64 a0_0, .int .u64 a0_1, .int .u64 a0_2, .int .u64 a0_3, .int .u64 a0_4, .int .u64 a0_5, .int .u64 a0_6, .bool a0_7, .slice A0_8 l0_8.length c0_8, .slice A0_9 l0_9.length c0_9]) (t := 27) ?hr ?_; (case hd => rfl); (case hg => rfl); (case hr => first | (go_simp; done) | (go_simp; rfl)); intro gb463 hg w68 hbox hb; have n0_ := Aside0.mk (below_step (by repeat (first | (with_reducible first | exact HB.out | apply b1_ | apply b2_ | apply b3_) | exact HB.out)) hb); have n1_ := Aside0.mk (hbox); have n2_ := Aside0.mk ((by rw [hg]; exact (below_size (by repeat (first | (with_reducible first | exact HB.out | apply b1_ | apply b2_ | apply b3_) | exact HB.out))) : w.heap.size ≤ gb463)); have n3_ := Aside0.mk ((by rw [hg]; exact (below_size (by repeat (first | (with_reducible first | exact HB.out | apply b1_ | apply b2_ | apply b3_) | exact HB.out))) : w.heap.size ≤ gb463)); clear HB; have HB := n0_; have BK463 := n1_; have GW463 := n2_; have GE463 := n3_; clear n0_ n1_ n2_ n3_; clear hb hbox hg) | ((with_reducible refine gate_dst (N := 3) rfl ?_); refine box_event ?hg (N := 3) ?hd (cs := #[.int .i64 a1_0, .int .u64 a1_1, .int .u64 a1_2, .int .u64 a1_3, .int .u64 a1_4, .int .u64 a1_5, .int .u64 a1_6, .bool a1_7, .slice A1_8 l1_8.length c1_8, .slice A1_9 l1_9.length c1_9]) (t := 27) ?hr ?_; (case hd => rfl); (case hg => rfl); (case hr => first | (go_simp; done) | (go_simp; rfl)); intro gb464 hg w69 hbox hb; have n0_ := Aside0.mk (blk_below (g := gb463) (o := .cells #[.int .i64 a0_0, .int .u64 a0_1, .int .u64 a0_2, .int .u64 a0_3, .int .u64 a0_4, .int .u64 a0_5, .int .u64 a0_6, .bool a0_7, .slice A0_8 l0_8.length c0_8, .slice A0_9 l0_9.length c0_9] 27 (0, 0)) (by (with_reducible repeat first|apply bN_|apply bD_|apply bA_); exact BK463.out) hb); have n1_ := Aside0.mk (below_step (by repeat (first | (with_reducible first | exact HB.out | apply b1_ | apply b2_ | apply b3_ | refine bS_ ?_ GE463.out) | exact HB.out)) hb); have n2_ := Aside0.mk (hbox); have n3_ := Aside0.mk ((by rw [hg]; exact (below_size (by repeat (first | (with_reducible first | exact HB.out | apply b1_ | apply b2_ | apply b3_ | refine bS_ ?_ GE463.out) | exact HB.out))) : w.heap.size ≤ gb464)); have n4_ := Aside0.mk ((by rw [hg]; exact (below_size (by repeat (first | (with_reducible first | exact HB.out | apply b1_ | apply b2_ | apply b3_ | refine bS_ ?_ GE463.out) | exact HB.out))) : w.heap.size ≤ gb464)); have n5_ := Aside0.mk ((by rw [hg]; exact Nat.ne_of_lt (blk_lt (g := gb463) (o := .cells #[.int .i64 a0_0, .int .u64 a0_1, .int .u64 a0_2, .int .u64 a0_3, .int .u64 a0_4, .int .u64 a0_5, .int .u64 a0_6, .bool a0_7, .slice A0_8 l0_8.length c0_8, .slice A0_9 l0_9.length c0_9] 27 (0, 0)) (by (with_reducible repeat first|apply bN_|apply bD_|apply bA_); exact BK463.out)) : gb463 ≠ gb464)); have n6_ := Aside0.mk ((by rw [hg]; exact Nat.ne_of_gt (blk_lt (g := gb463) (o := .cells #[.int .i64 a0_0, .int .u64 a0_1, .int .u64 a0_2, .int .u64 a0_3, .int .u64 a0_4, .int .u64 a0_5, .int .u64 a0_6, .bool a0_7, .slice A0_8 l0_8.length c0_8, .slice A0_9 l0_9.length c0_9] 27 (0, 0)) (by (with_reducible repeat first|apply bN_|apply bD_|apply bA_); exact BK463.out)) : gb464 ≠ gb463)); clear BK463; clear HB; have BK463 := n0_; have HB := n1_; have BK464 := n2_; have GW464 := n3_; have GE464 := n4_; have NB463_464 := n5_; have NB464_463 := n6_; clear n0_ n1_ n2_ n3_ n4_ n5_ n6_; clear hb hbox hg; have hnb70 := NB463_464.out; have hnc70 := NB464_463.out; have hcz71_0 := cells10_ BK463.out; have hfz71_0 := froz10_ BK463.out; have hcz72_0 := cells10_ BK464.out; have hfz72_0 := froz9_ BK464.out; have hfz72_9 := blk_frozen BK464.out 9) | ((with_reducible refine gate_callee (f := 23) rfl ?_); refine goesL_ (some 11) rfl rfl Try.func23 (by kernel_rfl) rfl #[.slice A0_9 l0_9.length c0_9, .slice A1_9 l1_9.length c1_9] rfl (by (try simp only [List.map_toArray, List.map_cons, List.map_nil]); first | done | rfl | (simp only [List.length_drop, List.length_take]; rfl)) ?_; (with_reducible refine (wigwagref05_Spans.calls k _ _ l0_9 _ _ l1_9 true _ ?side1 ?side2 ?side3 ?side4 A3.out).mono ?_); (case side1 => repeat (first | exact (Kd.C_below HR0_9.out HB.out) | (with_reducible refine Kd.C_alloc ?_ _) | (with_reducible refine Kd.C_drewN ?_ _) | (with_reducible refine Kd.C_drew ?_))); (case side2 => exact HC0_9.out); (case side3 => repeat (first | exact (Kd.C_below HR1_9.out HB.out) | (with_reducible refine Kd.C_alloc ?_ _) | (with_reducible refine Kd.C_drewN ?_ _) | (with_reducible refine Kd.C_drew ?_))); (case side4 => exact HC1_9.out); rintro e w' ⟨rfl, ⟨nd, rfl⟩⟩; refine ⟨_, rfl, ?_⟩))
    go_ret
    exact ⟨by first | rfl | (simp [errW_none, errW_some] <;> rfl) | (simp [*, errW_none, errW_some] <;> rfl), by repeat (first | (with_reducible first | exact HB.out | apply b1_ | apply b2_ | apply b3_ | refine bS_ ?_ GE463.out | refine bS_ ?_ GE464.out) | exact HB.out)⟩
   ·replace c67 := Bool.eq_false_iff.mpr c67
    subst c67
    have H1 : (some false) = some r := by rw [if_neg (show ¬ (false = true) by decide)] at H; exact H
    clear H
    have H := H1
    clear H1
    obtain rfl := Option.some.inj H
    go_enter Try.func21, Try.ntmps21
    go_wp2_with (first | ((with_reducible refine gate_dst (N := 2) rfl ?_); refine box_event ?hg (N := 2) ?hd (cs := #[.int .i64 a0_0, .int .u64 a0_1, .int .u64 a0_2, .int .u64 a0_3, .int .u64 a0_4, .int .u64 a0_5, .int .u64 a0_6, .bool a0_7, .slice A0_8 l0_8.length c0_8, .slice A0_9 l0_9.length c0_9]) (t := 27) ?hr ?_; (case hd => rfl); (case hg => rfl); (case hr => first | (go_simp; done) | (go_simp; rfl)); intro gb463 hg w73 hbox hb; have n0_ := Aside0.mk (below_step (by repeat (first | (with_reducible first | exact HB.out | apply b1_ | apply b2_ | apply b3_) | exact HB.out)) hb); have n1_ := Aside0.mk (hbox); have n2_ := Aside0.mk ((by rw [hg]; exact (below_size (by repeat (first | (with_reducible first | exact HB.out | apply b1_ | apply b2_ | apply b3_) | exact HB.out))) : w.heap.size ≤ gb463)); have n3_ := Aside0.mk ((by rw [hg]; exact (below_size (by repeat (first | (with_reducible first | exact HB.out | apply b1_ | apply b2_ | apply b3_) | exact HB.out))) : w.heap.size ≤ gb463)); clear HB; have HB := n0_; have BK463 := n1_; have GW463 := n2_; have GE463 := n3_; clear n0_ n1_ n2_ n3_; clear hb hbox hg) | ((with_reducible refine gate_dst (N := 3) rfl ?_); refine box_event ?hg (N := 3) ?hd (cs := #[.int .i64 a1_0, .int .u64 a1_1, .int .u64 a1_2, .int .u64 a1_3, .int .u64 a1_4, .int .u64 a1_5, .int .u64 a1_6, .bool a1_7, .slice A1_8 l1_8.length c1_8, .slice A1_9 l1_9.length c1_9]) (t := 27) ?hr ?_; (case hd => rfl); (case hg => rfl); (case hr => first | (go_simp; done) | (go_simp; rfl)); intro gb464 hg w74 hbox hb; have n0_ := Aside0.mk (blk_below (g := gb463) (o := .cells #[.int .i64 a0_0, .int .u64 a0_1, .int .u64 a0_2, .int .u64 a0_3, .int .u64 a0_4, .int .u64 a0_5, .int .u64 a0_6, .bool a0_7, .slice A0_8 l0_8.length c0_8, .slice A0_9 l0_9.length c0_9] 27 (0, 0)) (by (with_reducible repeat first|apply bN_|apply bD_|apply bA_); exact BK463.out) hb); have n1_ := Aside0.mk (below_step (by repeat (first | (with_reducible first | exact HB.out | apply b1_ | apply b2_ | apply b3_ | refine bS_ ?_ GE463.out) | exact HB.out)) hb); have n2_ := Aside0.mk (hbox); have n3_ := Aside0.mk ((by rw [hg]; exact (below_size (by repeat (first | (with_reducible first | exact HB.out | apply b1_ | apply b2_ | apply b3_ | refine bS_ ?_ GE463.out) | exact HB.out))) : w.heap.size ≤ gb464)); have n4_ := Aside0.mk ((by rw [hg]; exact (below_size (by repeat (first | (with_reducible first | exact HB.out | apply b1_ | apply b2_ | apply b3_ | refine bS_ ?_ GE463.out) | exact HB.out))) : w.heap.size ≤ gb464)); have n5_ := Aside0.mk ((by rw [hg]; exact Nat.ne_of_lt (blk_lt (g := gb463) (o := .cells #[.int .i64 a0_0, .int .u64 a0_1, .int .u64 a0_2, .int .u64 a0_3, .int .u64 a0_4, .int .u64 a0_5, .int .u64 a0_6, .bool a0_7, .slice A0_8 l0_8.length c0_8, .slice A0_9 l0_9.length c0_9] 27 (0, 0)) (by (with_reducible repeat first|apply bN_|apply bD_|apply bA_); exact BK463.out)) : gb463 ≠ gb464)); have n6_ := Aside0.mk ((by rw [hg]; exact Nat.ne_of_gt (blk_lt (g := gb463) (o := .cells #[.int .i64 a0_0, .int .u64 a0_1, .int .u64 a0_2, .int .u64 a0_3, .int .u64 a0_4, .int .u64 a0_5, .int .u64 a0_6, .bool a0_7, .slice A0_8 l0_8.length c0_8, .slice A0_9 l0_9.length c0_9] 27 (0, 0)) (by (with_reducible repeat first|apply bN_|apply bD_|apply bA_); exact BK463.out)) : gb464 ≠ gb463)); clear BK463; clear HB; have BK463 := n0_; have HB := n1_; have BK464 := n2_; have GW464 := n3_; have GE464 := n4_; have NB463_464 := n5_; have NB464_463 := n6_; clear n0_ n1_ n2_ n3_ n4_ n5_ n6_; clear hb hbox hg; have hnb75 := NB463_464.out; have hnc75 := NB464_463.out; have hcz76_0 := cells10_ BK463.out; have hfz76_0 := froz10_ BK463.out; have hcz77_0 := cells10_ BK464.out; have hfz77_0 := froz9_ BK464.out; have hfz77_9 := blk_frozen BK464.out 9) | ((with_reducible refine gate_callee (f := 23) rfl ?_); refine goesL_ (some 11) rfl rfl Try.func23 (by kernel_rfl) rfl #[.slice A0_9 l0_9.length c0_9, .slice A1_9 l1_9.length c1_9] rfl (by (try simp only [List.map_toArray, List.map_cons, List.map_nil]); first | done | rfl | (simp only [List.length_drop, List.length_take]; rfl)) ?_; (with_reducible refine (wigwagref05_Spans.calls k _ _ l0_9 _ _ l1_9 false _ ?side1 ?side2 ?side3 ?side4 A3.out).mono ?_); (case side1 => repeat (first | exact (Kd.C_below HR0_9.out HB.out) | (with_reducible refine Kd.C_alloc ?_ _) | (with_reducible refine Kd.C_drewN ?_ _) | (with_reducible refine Kd.C_drew ?_))); (case side2 => exact HC0_9.out); (case side3 => repeat (first | exact (Kd.C_below HR1_9.out HB.out) | (with_reducible refine Kd.C_alloc ?_ _) | (with_reducible refine Kd.C_drewN ?_ _) | (with_reducible refine Kd.C_drew ?_))); (case side4 => exact HC1_9.out); rintro e w' ⟨rfl, ⟨nd, rfl⟩⟩; refine ⟨_, rfl, ?_⟩))
    go_ret
    exact ⟨by first | rfl | (simp [errW_none, errW_some] <;> rfl) | (simp [*, errW_none, errW_some] <;> rfl), by repeat (first | (with_reducible first | exact HB.out | apply b1_ | apply b2_ | apply b3_ | refine bS_ ?_ GE463.out | refine bS_ ?_ GE464.out) | exact HB.out)⟩
 ·rw [if_neg c4] at H
  have c4b0 : (a0_0 == a1_0) = false := beq_eq_false_iff_ne.mpr c4
  have c4b1 : (a0_0 != a1_0) = true := bne_iff_ne.mpr c4
  by_cases c78 : t465 = true
  ·subst c78
   have H1 : (some false) = some r := by rw [if_pos rfl] at H; exact H
   clear H
   have H := H1
   clear H1
   obtain rfl := Option.some.inj H
   go_enter Try.func21, Try.ntmps21
   go_wp2_with (first | ((with_reducible refine gate_dst (N := 2) rfl ?_); refine box_event ?hg (N := 2) ?hd (cs := #[.int .i64 a0_0, .int .u64 a0_1, .int .u64 a0_2, .int .u64 a0_3, .int .u64 a0_4, .int .u64 a0_5, .int .u64 a0_6, .bool a0_7, .slice A0_8 l0_8.length c0_8, .slice A0_9 l0_9.length c0_9]) (t := 27) ?hr ?_; (case hd => rfl); (case hg => rfl); (case hr => first | (go_simp; done) | (go_simp; rfl)); intro gb463 hg w79 hbox hb; have n0_ := Aside0.mk (below_step (by repeat (first | (with_reducible first | exact HB.out | apply b1_ | apply b2_ | apply b3_) | exact HB.out)) hb); have n1_ := Aside0.mk (hbox); have n2_ := Aside0.mk ((by rw [hg]; exact (below_size (by repeat (first | (with_reducible first | exact HB.out | apply b1_ | apply b2_ | apply b3_) | exact HB.out))) : w.heap.size ≤ gb463)); have n3_ := Aside0.mk ((by rw [hg]; exact (below_size (by repeat (first | (with_reducible first | exact HB.out | apply b1_ | apply b2_ | apply b3_) | exact HB.out))) : w.heap.size ≤ gb463)); clear HB; have HB := n0_; have BK463 := n1_; have GW463 := n2_; have GE463 := n3_; clear n0_ n1_ n2_ n3_; clear hb hbox hg) | ((with_reducible refine gate_dst (N := 3) rfl ?_); refine box_event ?hg (N := 3) ?hd (cs := #[.int .i64 a1_0, .int .u64 a1_1, .int .u64 a1_2, .int .u64 a1_3, .int .u64 a1_4, .int .u64 a1_5, .int .u64 a1_6, .bool a1_7, .slice A1_8 l1_8.length c1_8, .slice A1_9 l1_9.length c1_9]) (t := 27) ?hr ?_; (case hd => rfl); (case hg => rfl); (case hr => first | (go_simp; done) | (go_simp; rfl)); intro gb464 hg w80 hbox hb; have n0_ := Aside0.mk (blk_below (g := gb463) (o := .cells #[.int .i64 a0_0, .int .u64 a0_1, .int .u64 a0_2, .int .u64 a0_3, .int .u64 a0_4, .int .u64 a0_5, .int .u64 a0_6, .bool a0_7, .slice A0_8 l0_8.length c0_8, .slice A0_9 l0_9.length c0_9] 27 (0, 0)) (by (with_reducible repeat first|apply bN_|apply bD_|apply bA_); exact BK463.out) hb); have n1_ := Aside0.mk (below_step (by repeat (first | (with_reducible first | exact HB.out | apply b1_ | apply b2_ | apply b3_ | refine bS_ ?_ GE463.out) | exact HB.out)) hb); have n2_ := Aside0.mk (hbox); have n3_ := Aside0.mk ((by rw [hg]; exact (below_size (by repeat (first | (with_reducible first | exact HB.out | apply b1_ | apply b2_ | apply b3_ | refine bS_ ?_ GE463.out) | exact HB.out))) : w.heap.size ≤ gb464)); have n4_ := Aside0.mk ((by rw [hg]; exact (below_size (by repeat (first | (with_reducible first | exact HB.out | apply b1_ | apply b2_ | apply b3_ | refine bS_ ?_ GE463.out) | exact HB.out))) : w.heap.size ≤ gb464)); have n5_ := Aside0.mk ((by rw [hg]; exact Nat.ne_of_lt (blk_lt (g := gb463) (o := .cells #[.int .i64 a0_0, .int .u64 a0_1, .int .u64 a0_2, .int .u64 a0_3, .int .u64 a0_4, .int .u64 a0_5, .int .u64 a0_6, .bool a0_7, .slice A0_8 l0_8.length c0_8, .slice A0_9 l0_9.length c0_9] 27 (0, 0)) (by (with_reducible repeat first|apply bN_|apply bD_|apply bA_); exact BK463.out)) : gb463 ≠ gb464)); have n6_ := Aside0.mk ((by rw [hg]; exact Nat.ne_of_gt (blk_lt (g := gb463) (o := .cells #[.int .i64 a0_0, .int .u64 a0_1, .int .u64 a0_2, .int .u64 a0_3, .int .u64 a0_4, .int .u64 a0_5, .int .u64 a0_6, .bool a0_7, .slice A0_8 l0_8.length c0_8, .slice A0_9 l0_9.length c0_9] 27 (0, 0)) (by (with_reducible repeat first|apply bN_|apply bD_|apply bA_); exact BK463.out)) : gb464 ≠ gb463)); clear BK463; clear HB; have BK463 := n0_; have HB := n1_; have BK464 := n2_; have GW464 := n3_; have GE464 := n4_; have NB463_464 := n5_; have NB464_463 := n6_; clear n0_ n1_ n2_ n3_ n4_ n5_ n6_; clear hb hbox hg; have hnb81 := NB463_464.out; have hnc81 := NB464_463.out; have hcz82_0 := cells10_ BK463.out; have hfz82_0 := froz10_ BK463.out; have hcz83_0 := cells10_ BK464.out; have hfz83_0 := froz9_ BK464.out; have hfz83_9 := blk_frozen BK464.out 9) | ((with_reducible refine gate_callee (f := 23) rfl ?_); refine goesL_ (some 11) rfl rfl Try.func23 (by kernel_rfl) rfl #[.slice A0_9 l0_9.length c0_9, .slice A1_9 l1_9.length c1_9] rfl (by (try simp only [List.map_toArray, List.map_cons, List.map_nil]); first | done | rfl | (simp only [List.length_drop, List.length_take]; rfl)) ?_; (with_reducible refine (wigwagref05_Spans.calls k _ _ l0_9 _ _ l1_9 true _ ?side1 ?side2 ?side3 ?side4 A3.out).mono ?_); (case side1 => repeat (first | exact (Kd.C_below HR0_9.out HB.out) | (with_reducible refine Kd.C_alloc ?_ _) | (with_reducible refine Kd.C_drewN ?_ _) | (with_reducible refine Kd.C_drew ?_))); (case side2 => exact HC0_9.out); (case side3 => repeat (first | exact (Kd.C_below HR1_9.out HB.out) | (with_reducible refine Kd.C_alloc ?_ _) | (with_reducible refine Kd.C_drewN ?_ _) | (with_reducible refine Kd.C_drew ?_))); (case side4 => exact HC1_9.out); rintro e w' ⟨rfl, ⟨nd, rfl⟩⟩; refine ⟨_, rfl, ?_⟩))
   go_ret
   exact ⟨by first | rfl | (simp [errW_none, errW_some] <;> rfl) | (simp [*, errW_none, errW_some] <;> rfl), by repeat (first | (with_reducible first | exact HB.out | apply b1_ | apply b2_ | apply b3_ | refine bS_ ?_ GE463.out | refine bS_ ?_ GE464.out) | exact HB.out)⟩
  ·replace c78 := Bool.eq_false_iff.mpr c78
   subst c78
   have H1 : (some false) = some r := by rw [if_neg (show ¬ (false = true) by decide)] at H; exact H
   clear H
   have H := H1
   clear H1
   obtain rfl := Option.some.inj H
   go_enter Try.func21, Try.ntmps21
   go_wp2_with (first | ((with_reducible refine gate_dst (N := 2) rfl ?_); refine box_event ?hg (N := 2) ?hd (cs := #[.int .i64 a0_0, .int .u64 a0_1, .int .u64 a0_2, .int .u64 a0_3, .int .u64 a0_4, .int .u64 a0_5, .int .u64 a0_6, .bool a0_7, .slice A0_8 l0_8.length c0_8, .slice A0_9 l0_9.length c0_9]) (t := 27) ?hr ?_; (case hd => rfl); (case hg => rfl); (case hr => first | (go_simp; done) | (go_simp; rfl)); intro gb463 hg w84 hbox hb; have n0_ := Aside0.mk (below_step (by repeat (first | (with_reducible first | exact HB.out | apply b1_ | apply b2_ | apply b3_) | exact HB.out)) hb); have n1_ := Aside0.mk (hbox); have n2_ := Aside0.mk ((by rw [hg]; exact (below_size (by repeat (first | (with_reducible first | exact HB.out | apply b1_ | apply b2_ | apply b3_) | exact HB.out))) : w.heap.size ≤ gb463)); have n3_ := Aside0.mk ((by rw [hg]; exact (below_size (by repeat (first | (with_reducible first | exact HB.out | apply b1_ | apply b2_ | apply b3_) | exact HB.out))) : w.heap.size ≤ gb463)); clear HB; have HB := n0_; have BK463 := n1_; have GW463 := n2_; have GE463 := n3_; clear n0_ n1_ n2_ n3_; clear hb hbox hg) | ((with_reducible refine gate_dst (N := 3) rfl ?_); refine box_event ?hg (N := 3) ?hd (cs := #[.int .i64 a1_0, .int .u64 a1_1, .int .u64 a1_2, .int .u64 a1_3, .int .u64 a1_4, .int .u64 a1_5, .int .u64 a1_6, .bool a1_7, .slice A1_8 l1_8.length c1_8, .slice A1_9 l1_9.length c1_9]) (t := 27) ?hr ?_; (case hd => rfl); (case hg => rfl); (case hr => first | (go_simp; done) | (go_simp; rfl)); intro gb464 hg w85 hbox hb; have n0_ := Aside0.mk (blk_below (g := gb463) (o := .cells #[.int .i64 a0_0, .int .u64 a0_1, .int .u64 a0_2, .int .u64 a0_3, .int .u64 a0_4, .int .u64 a0_5, .int .u64 a0_6, .bool a0_7, .slice A0_8 l0_8.length c0_8, .slice A0_9 l0_9.length c0_9] 27 (0, 0)) (by (with_reducible repeat first|apply bN_|apply bD_|apply bA_); exact BK463.out) hb); have n1_ := Aside0.mk (below_step (by repeat (first | (with_reducible first | exact HB.out | apply b1_ | apply b2_ | apply b3_ | refine bS_ ?_ GE463.out) | exact HB.out)) hb); have n2_ := Aside0.mk (hbox); have n3_ := Aside0.mk ((by rw [hg]; exact (below_size (by repeat (first | (with_reducible first | exact HB.out | apply b1_ | apply b2_ | apply b3_ | refine bS_ ?_ GE463.out) | exact HB.out))) : w.heap.size ≤ gb464)); have n4_ := Aside0.mk ((by rw [hg]; exact (below_size (by repeat (first | (with_reducible first | exact HB.out | apply b1_ | apply b2_ | apply b3_ | refine bS_ ?_ GE463.out) | exact HB.out))) : w.heap.size ≤ gb464)); have n5_ := Aside0.mk ((by rw [hg]; exact Nat.ne_of_lt (blk_lt (g := gb463) (o := .cells #[.int .i64 a0_0, .int .u64 a0_1, .int .u64 a0_2, .int .u64 a0_3, .int .u64 a0_4, .int .u64 a0_5, .int .u64 a0_6, .bool a0_7, .slice A0_8 l0_8.length c0_8, .slice A0_9 l0_9.length c0_9] 27 (0, 0)) (by (with_reducible repeat first|apply bN_|apply bD_|apply bA_); exact BK463.out)) : gb463 ≠ gb464)); have n6_ := Aside0.mk ((by rw [hg]; exact Nat.ne_of_gt (blk_lt (g := gb463) (o := .cells #[.int .i64 a0_0, .int .u64 a0_1, .int .u64 a0_2, .int .u64 a0_3, .int .u64 a0_4, .int .u64 a0_5, .int .u64 a0_6, .bool a0_7, .slice A0_8 l0_8.length c0_8, .slice A0_9 l0_9.length c0_9] 27 (0, 0)) (by (with_reducible repeat first|apply bN_|apply bD_|apply bA_); exact BK463.out)) : gb464 ≠ gb463)); clear BK463; clear HB; have BK463 := n0_; have HB := n1_; have BK464 := n2_; have GW464 := n3_; have GE464 := n4_; have NB463_464 := n5_; have NB464_463 := n6_; clear n0_ n1_ n2_ n3_ n4_ n5_ n6_; clear hb hbox hg; have hnb86 := NB463_464.out; have hnc86 := NB464_463.out; have hcz87_0 := cells10_ BK463.out; have hfz87_0 := froz10_ BK463.out; have hcz88_0 := cells10_ BK464.out; have hfz88_0 := froz9_ BK464.out; have hfz88_9 := blk_frozen BK464.out 9) | ((with_reducible refine gate_callee (f := 23) rfl ?_); refine goesL_ (some 11) rfl rfl Try.func23 (by kernel_rfl) rfl #[.slice A0_9 l0_9.length c0_9, .slice A1_9 l1_9.length c1_9] rfl (by (try simp only [List.map_toArray, List.map_cons, List.map_nil]); first | done | rfl | (simp only [List.length_drop, List.length_take]; rfl)) ?_; (with_reducible refine (wigwagref05_Spans.calls k _ _ l0_9 _ _ l1_9 false _ ?side1 ?side2 ?side3 ?side4 A3.out).mono ?_); (case side1 => repeat (first | exact (Kd.C_below HR0_9.out HB.out) | (with_reducible refine Kd.C_alloc ?_ _) | (with_reducible refine Kd.C_drewN ?_ _) | (with_reducible refine Kd.C_drew ?_))); (case side2 => exact HC0_9.out); (case side3 => repeat (first | exact (Kd.C_below HR1_9.out HB.out) | (with_reducible refine Kd.C_alloc ?_ _) | (with_reducible refine Kd.C_drewN ?_ _) | (with_reducible refine Kd.C_drew ?_))); (case side4 => exact HC1_9.out); rintro e w' ⟨rfl, ⟨nd, rfl⟩⟩; refine ⟨_, rfl, ?_⟩))
   go_ret
   exact ⟨by first | rfl | (simp [errW_none, errW_some] <;> rfl) | (simp [*, errW_none, errW_some] <;> rfl), by repeat (first | (with_reducible first | exact HB.out | apply b1_ | apply b2_ | apply b3_ | refine bS_ ?_ GE463.out | refine bS_ ?_ GE464.out) | exact HB.out)⟩
attribute [local go_sem] max2_int min2_int max_two min_two max_three min_three max_four min_four   -- for this text's walks alone
set_option linter.unusedVariables false
set_option linter.unusedSimpArgs false
def wigwagref05_SameAll.l0 : Nat → List (S27) → List (S27) → Int → Option (Bool)
  | 0, _, _, _ => none
  | k + 1, x0, x1, x5 => if x5 < (x0.length : Int) then (if 0 ≤ x5 then (if x5 < (x1.length : Int) then ((wigwagref05_Same.f k ((rd_T27 x0 x5).f0) ((rd_T27 x0 x5).f1) ((rd_T27 x0 x5).f2) ((rd_T27 x0 x5).f3) ((rd_T27 x0 x5).f4) ((rd_T27 x0 x5).f5) ((rd_T27 x0 x5).f6) ((rd_T27 x0 x5).f7) ((rd_T27 x0 x5).f8) ((rd_T27 x0 x5).f9) ((rd_T27 x1 x5).f0) ((rd_T27 x1 x5).f1) ((rd_T27 x1 x5).f2) ((rd_T27 x1 x5).f3) ((rd_T27 x1 x5).f4) ((rd_T27 x1 x5).f5) ((rd_T27 x1 x5).f6) ((rd_T27 x1 x5).f7) ((rd_T27 x1 x5).f8) ((rd_T27 x1 x5).f9)).bind fun t468 => (if t468 = true then (wigwagref05_SameAll.l0 k x0 x1 (wrap64 (x5 + 1))) else (some false))) else (none)) else (none)) else (some true)
def wigwagref05_SameAll.f (k : Nat) (l0 : List (S27)) (l1 : List (S27)) : Option (Bool) := if (l0.length : Int) = (l1.length : Int) then (wigwagref05_SameAll.l0 k l0 l1 0) else (some false)
def wigwagref05_SameAll.T6 : Bool × List (List Nat × List Nat) := (true, [([], []), ([], []), ([0, 1], [0, 1]), ([2], [2]), ([], []), ([], []), ([4, 5], [4, 5]), ([6], [6]), ([3, 7], [3, 7]), ([8, 8, 0, 1, 2, 3, 4, 5, 6, 7, 8], [8])])
def wigwagref05_SameAll.B6 : List Nat := [0, 0, 3, 7, 0, 0, 48, 112, 255, 511]
theorem wigwagref05_SameAll.tab6 : rtab .any (opsOf Try.f22 6) = wigwagref05_SameAll.T6 := by kernel_rfl
theorem wigwagref05_SameAll.bits6 : waitsOk wigwagref05_SameAll.T6.2 wigwagref05_SameAll.B6 = true := by kernel_rfl
set_option maxHeartbeats 8000000 in
set_option maxRecDepth 100000 in
theorem wigwagref05_SameAll.calls (k : Nat) (A0 : Option Addr) (c0 : Nat) (l0 : List (S27)) (A1 : Option Addr) (c1 : Nat) (l1 : List (S27)) (r : Bool) (w : World) (hr0 : Kd.C k27 w A0 l0.length l0) (hc0 : l0.length ≤ c0) (hr1 : Kd.C k27 w A1 l1.length l1) (hc1 : l1.length ≤ c1) (h : wigwagref05_SameAll.f k l0 l1 = some r) :
    Calls Try.prog 22 #[.slice A0 l0.length c0, .slice A1 l1.length c1] w fun e w' => e = .returned (.bool r) ∧ Below w.heap.size w w' := by
  have hu27 := Try.underlying27
  have HR0 := Aside0.mk hr0
  have HC0 := Aside0.mk hc0
  clear hr0 hc0
  have HR1 := Aside0.mk hr1
  have HC1 := Aside0.mk hc1
  clear hr1 hc1
  have HB := Aside0.mk (Below.refl w.heap.size w)
  have H : (if (l0.length : Int) = (l1.length : Int) then (wigwagref05_SameAll.l0 k l0 l1 0) else (some false)) = some r := h
  clear h
  by_cases c3 : (l0.length : Int) = (l1.length : Int)
  · rw [if_pos c3] at H
    have c3b0 : ((l0.length : Int) == (l1.length : Int)) = true := beq_iff_eq.mpr c3
    have c3b1 : ((l0.length : Int) != (l1.length : Int)) = false := bne_eq_false_iff_eq.mpr c3
    have c3b2 : (l0.length == l1.length) = true := by first | simpa using c3 | (simp at c3 ⊢; omega)
    clear c3
    have H' := Aside0.mk H
    clear H
    go_enter Try.func22, Try.ntmps22
    go_wp2
    go_loopg [5] k (fun kq v5 w' => ∃ (x5_1 : Int), v5 = .int .i64 x5_1 ∧ Aside0 (wigwagref05_SameAll.l0 kq l0 l1 x5_1 = some r) ∧ Aside0 (kq ≤ k) ∧ Aside0 (Below w.heap.size w w'))
    case atStart => exact ⟨(0), (by first | rfl | (simp; done) | (simp [*]; done)), H', ⟨Nat.le_refl _⟩, ⟨by repeat (first | (with_reducible first | exact HB.out | apply below_alloc | apply pw_below_drewN | apply below_drew1) | exact HB.out)⟩⟩
    case round =>
      clear H'
      try clear c1
      try clear c2
      try clear p2
      try clear c3
      try clear c3b0
      try clear c3b1
      try clear c3b2
      obtain ⟨x5_1, rfl, HA, HK1, HB⟩ := hrel
      cases gk with
      | zero => exact absurd HA.out (by simp [wigwagref05_SameAll.l0])
      | succ k1 =>
        have H := HA.out
        clear HA
        simp only [wigwagref05_SameAll.l0] at H
        by_cases c4 : x5_1 < (l0.length : Int)
        · rw [if_pos c4] at H
          have c4b0 : decide (x5_1 < (l0.length : Int)) = true := decide_eq_true c4
          clear c4
          by_cases c5 : 0 ≤ x5_1
          · rw [if_pos c5] at H
            have c5b0 : decide (0 ≤ x5_1) = true := decide_eq_true c5
            clear c5
            by_cases c6 : x5_1 < (l1.length : Int)
            · rw [if_pos c6] at H
              have c6b0 : decide (x5_1 < (l1.length : Int)) = true := decide_eq_true c6
              clear c6
              replace H := Option.bind_eq_some_iff.mp H
              obtain ⟨t468, A70, H⟩ := H
              replace H : (if t468 = true then (wigwagref05_SameAll.l0 k1 l0 l1 (wrap64 (x5_1 + 1))) else (some false)) = some r := H
              have A7 := Aside0.mk A70
              clear A70
              by_cases c8 : t468 = true
              · subst c8
                have H1 : (wigwagref05_SameAll.l0 k1 l0 l1 (wrap64 (x5_1 + 1))) = some r := by rw [if_pos rfl] at H; exact H
                clear H
                have H := H1
                clear H1
                have H' := Aside0.mk H
                clear H
                try go_wp2
                have n0_ := Aside0.mk (below_drew1 HB.out)
                clear HB
                have HB := n0_
                clear n0_
                have p466 : 0 ≤ (x5_1 : Int) := of_decide_eq_true (by first | (with_reducible assumption) | assumption)
                have q466 : x5_1 < (l0.length : Int) := of_decide_eq_true (by first | (with_reducible assumption) | assumption)
                obtain ⟨ad466, A466_8, c466_8, A466_9, c466_9, e466, hx466_0, hx466_1, hx466_2, hx466_3, hx466_4, hx466_5, hx466_6, hx466_7, hx466_8, hx466_9, hl466_8, hi466_8, hl466_9, hi466_9⟩ := at_T27 HR0.out x5_1 p466 q466
                have hw466_9 := hx466_9
                have hw466_8 := hx466_8
                have hw466_7 := hx466_7
                have hw466_6 := hx466_6
                have hw466_5 := hx466_5
                have hw466_4 := hx466_4
                have hw466_3 := hx466_3
                have hw466_2 := hx466_2
                have hw466_1 := hx466_1
                have hw466_0 := hx466_0
                cases e466
                replace hx466_0 := (HB.out.cell (World.block_lt_of_cell? w _ hx466_0)).trans hx466_0
                replace hx466_1 := (HB.out.cell (World.block_lt_of_cell? w _ hx466_1)).trans hx466_1
                replace hx466_2 := (HB.out.cell (World.block_lt_of_cell? w _ hx466_2)).trans hx466_2
                replace hx466_3 := (HB.out.cell (World.block_lt_of_cell? w _ hx466_3)).trans hx466_3
                replace hx466_4 := (HB.out.cell (World.block_lt_of_cell? w _ hx466_4)).trans hx466_4
                replace hx466_5 := (HB.out.cell (World.block_lt_of_cell? w _ hx466_5)).trans hx466_5
                replace hx466_6 := (HB.out.cell (World.block_lt_of_cell? w _ hx466_6)).trans hx466_6
                replace hx466_7 := (HB.out.cell (World.block_lt_of_cell? w _ hx466_7)).trans hx466_7
                replace hx466_8 := (HB.out.cell (World.block_lt_of_cell? w _ hx466_8)).trans hx466_8
                replace hx466_9 := (HB.out.cell (World.block_lt_of_cell? w _ hx466_9)).trans hx466_9
                have HR466_8 := Aside0.mk hi466_8
                have HC466_8 := Aside0.mk hl466_8
                clear hi466_8 hl466_8
                have HR466_9 := Aside0.mk hi466_9
                have HC466_9 := Aside0.mk hl466_9
                clear hi466_9 hl466_9
                replace p466 := eq_true p466
                replace q466 := eq_true q466
                have p467 : 0 ≤ (x5_1 : Int) := of_decide_eq_true (by first | (with_reducible assumption) | assumption)
                have q467 : x5_1 < (l1.length : Int) := of_decide_eq_true (by first | (with_reducible assumption) | assumption)
                obtain ⟨ad467, A467_8, c467_8, A467_9, c467_9, e467, hx467_0, hx467_1, hx467_2, hx467_3, hx467_4, hx467_5, hx467_6, hx467_7, hx467_8, hx467_9, hl467_8, hi467_8, hl467_9, hi467_9⟩ := at_T27 HR1.out x5_1 p467 q467
                have hw467_9 := hx467_9
                have hw467_8 := hx467_8
                have hw467_7 := hx467_7
                have hw467_6 := hx467_6
                have hw467_5 := hx467_5
                have hw467_4 := hx467_4
                have hw467_3 := hx467_3
                have hw467_2 := hx467_2
                have hw467_1 := hx467_1
                have hw467_0 := hx467_0
                cases e467
                replace hx467_0 := (HB.out.cell (World.block_lt_of_cell? w _ hx467_0)).trans hx467_0
                replace hx467_1 := (HB.out.cell (World.block_lt_of_cell? w _ hx467_1)).trans hx467_1
                replace hx467_2 := (HB.out.cell (World.block_lt_of_cell? w _ hx467_2)).trans hx467_2
                replace hx467_3 := (HB.out.cell (World.block_lt_of_cell? w _ hx467_3)).trans hx467_3
                replace hx467_4 := (HB.out.cell (World.block_lt_of_cell? w _ hx467_4)).trans hx467_4
                replace hx467_5 := (HB.out.cell (World.block_lt_of_cell? w _ hx467_5)).trans hx467_5
                replace hx467_6 := (HB.out.cell (World.block_lt_of_cell? w _ hx467_6)).trans hx467_6
                replace hx467_7 := (HB.out.cell (World.block_lt_of_cell? w _ hx467_7)).trans hx467_7
                replace hx467_8 := (HB.out.cell (World.block_lt_of_cell? w _ hx467_8)).trans hx467_8
                replace hx467_9 := (HB.out.cell (World.block_lt_of_cell? w _ hx467_9)).trans hx467_9
                have HR467_8 := Aside0.mk hi467_8
                have HC467_8 := Aside0.mk hl467_8
                clear hi467_8 hl467_8
                have HR467_9 := Aside0.mk hi467_9
                have HC467_9 := Aside0.mk hl467_9
                clear hi467_9 hl467_9
                replace p467 := eq_true p467
                replace q467 := eq_true q467
                refine start_ (n := 10) (S := fun w' => w'.cell? (ad466.add ((x5_1).toNat * 10)) = some (.int .i64 ((rd_T27 l0 x5_1).f0)) ∧ w'.cell? ⟨(ad466.add ((x5_1).toNat * 10)).block, (ad466.add ((x5_1).toNat * 10)).off + 1, none⟩ = some (.int .u64 ((rd_T27 l0 x5_1).f1)) ∧ w'.cell? ⟨(ad466.add ((x5_1).toNat * 10)).block, (ad466.add ((x5_1).toNat * 10)).off + 2, none⟩ = some (.int .u64 ((rd_T27 l0 x5_1).f2)) ∧ w'.cell? ⟨(ad466.add ((x5_1).toNat * 10)).block, (ad466.add ((x5_1).toNat * 10)).off + 3, none⟩ = some (.int .u64 ((rd_T27 l0 x5_1).f3)) ∧ w'.cell? ⟨(ad466.add ((x5_1).toNat * 10)).block, (ad466.add ((x5_1).toNat * 10)).off + 4, none⟩ = some (.int .u64 ((rd_T27 l0 x5_1).f4)) ∧ w'.cell? ⟨(ad466.add ((x5_1).toNat * 10)).block, (ad466.add ((x5_1).toNat * 10)).off + 5, none⟩ = some (.int .u64 ((rd_T27 l0 x5_1).f5)) ∧ w'.cell? ⟨(ad466.add ((x5_1).toNat * 10)).block, (ad466.add ((x5_1).toNat * 10)).off + 6, none⟩ = some (.int .u64 ((rd_T27 l0 x5_1).f6)) ∧ w'.cell? ⟨(ad466.add ((x5_1).toNat * 10)).block, (ad466.add ((x5_1).toNat * 10)).off + 7, none⟩ = some (.bool ((rd_T27 l0 x5_1).f7)) ∧ w'.cell? ⟨(ad466.add ((x5_1).toNat * 10)).block, (ad466.add ((x5_1).toNat * 10)).off + 8, none⟩ = some (.slice A466_8 ((rd_T27 l0 x5_1).f8).length c466_8) ∧ w'.cell? ⟨(ad466.add ((x5_1).toNat * 10)).block, (ad466.add ((x5_1).toNat * 10)).off + 9, none⟩ = some (.slice A466_9 ((rd_T27 l0 x5_1).f9).length c466_9) ∧ w'.cell? (ad467.add ((x5_1).toNat * 10)) = some (.int .i64 ((rd_T27 l1 x5_1).f0)) ∧ w'.cell? ⟨(ad467.add ((x5_1).toNat * 10)).block, (ad467.add ((x5_1).toNat * 10)).off + 1, none⟩ = some (.int .u64 ((rd_T27 l1 x5_1).f1)) ∧ w'.cell? ⟨(ad467.add ((x5_1).toNat * 10)).block, (ad467.add ((x5_1).toNat * 10)).off + 2, none⟩ = some (.int .u64 ((rd_T27 l1 x5_1).f2)) ∧ w'.cell? ⟨(ad467.add ((x5_1).toNat * 10)).block, (ad467.add ((x5_1).toNat * 10)).off + 3, none⟩ = some (.int .u64 ((rd_T27 l1 x5_1).f3)) ∧ w'.cell? ⟨(ad467.add ((x5_1).toNat * 10)).block, (ad467.add ((x5_1).toNat * 10)).off + 4, none⟩ = some (.int .u64 ((rd_T27 l1 x5_1).f4)) ∧ w'.cell? ⟨(ad467.add ((x5_1).toNat * 10)).block, (ad467.add ((x5_1).toNat * 10)).off + 5, none⟩ = some (.int .u64 ((rd_T27 l1 x5_1).f5)) ∧ w'.cell? ⟨(ad467.add ((x5_1).toNat * 10)).block, (ad467.add ((x5_1).toNat * 10)).off + 6, none⟩ = some (.int .u64 ((rd_T27 l1 x5_1).f6)) ∧ w'.cell? ⟨(ad467.add ((x5_1).toNat * 10)).block, (ad467.add ((x5_1).toNat * 10)).off + 7, none⟩ = some (.bool ((rd_T27 l1 x5_1).f7)) ∧ w'.cell? ⟨(ad467.add ((x5_1).toNat * 10)).block, (ad467.add ((x5_1).toNat * 10)).off + 8, none⟩ = some (.slice A467_8 ((rd_T27 l1 x5_1).f8).length c467_8) ∧ w'.cell? ⟨(ad467.add ((x5_1).toNat * 10)).block, (ad467.add ((x5_1).toNat * 10)).off + 9, none⟩ = some (.slice A467_9 ((rd_T27 l1 x5_1).f9).length c467_9)) (ds := []) #[false, false, false, false, false, false, false, false, false, false] (by kernel_rfl) rfl rfl ⟨((HB.out.cell (World.block_lt_of_cell? w _ hw466_0)).trans hw466_0), ((HB.out.cell (World.block_lt_of_cell? w _ hw466_1)).trans hw466_1), ((HB.out.cell (World.block_lt_of_cell? w _ hw466_2)).trans hw466_2), ((HB.out.cell (World.block_lt_of_cell? w _ hw466_3)).trans hw466_3), ((HB.out.cell (World.block_lt_of_cell? w _ hw466_4)).trans hw466_4), ((HB.out.cell (World.block_lt_of_cell? w _ hw466_5)).trans hw466_5), ((HB.out.cell (World.block_lt_of_cell? w _ hw466_6)).trans hw466_6), ((HB.out.cell (World.block_lt_of_cell? w _ hw466_7)).trans hw466_7), ((HB.out.cell (World.block_lt_of_cell? w _ hw466_8)).trans hw466_8), ((HB.out.cell (World.block_lt_of_cell? w _ hw466_9)).trans hw466_9), ((HB.out.cell (World.block_lt_of_cell? w _ hw467_0)).trans hw467_0), ((HB.out.cell (World.block_lt_of_cell? w _ hw467_1)).trans hw467_1), ((HB.out.cell (World.block_lt_of_cell? w _ hw467_2)).trans hw467_2), ((HB.out.cell (World.block_lt_of_cell? w _ hw467_3)).trans hw467_3), ((HB.out.cell (World.block_lt_of_cell? w _ hw467_4)).trans hw467_4), ((HB.out.cell (World.block_lt_of_cell? w _ hw467_5)).trans hw467_5), ((HB.out.cell (World.block_lt_of_cell? w _ hw467_6)).trans hw467_6), ((HB.out.cell (World.block_lt_of_cell? w _ hw467_7)).trans hw467_7), ((HB.out.cell (World.block_lt_of_cell? w _ hw467_8)).trans hw467_8), ((HB.out.cell (World.block_lt_of_cell? w _ hw467_9)).trans hw467_9)⟩ (fun hHeld => ?_); refine with_tabW wigwagref05_SameAll.tab6 wigwagref05_SameAll.bits6 (fun HT_ HW_ => ?_)
                generalize wr.drew = w9 at HB HR466_8 HR466_9 HR467_8 HR467_9 hx466_0 hx466_1 hx466_2 hx466_3 hx466_4 hx466_5 hx466_6 hx466_7 hx466_8 hx466_9 hx467_0 hx467_1 hx467_2 hx467_3 hx467_4 hx467_5 hx467_6 hx467_7 hx467_8 hx467_9 hHeld ⊢
                refine pure_ (i := 0) (N := some 18) (v := ?_) (a' := ?_) #[true, false, false, false, false, false, false, false, false, false] rfl rfl (any_of HT_.out (by kernel_rfl)) (fun _ _ _ h => h) (Or.inl ⟨by rfl, ?_⟩) ?_ ?_
                rotate_left
                · intro w'
                  go_simp
                  with_reducible rfl
                rotate_left
                · simp only [Act.put, List.setIfInBounds_toArray, List.set_cons_zero, List.set_cons_succ, i64_w, i32_w]
                  rfl
                refine pure_ (i := 1) (N := some 19) (v := ?_) (a' := ?_) #[true, true, false, false, false, false, false, false, false, false] rfl rfl (any_of HT_.out (by kernel_rfl)) (fun _ _ _ h => h) (Or.inl ⟨by rfl, ?_⟩) ?_ ?_
                rotate_left
                · intro w'
                  go_simp
                  with_reducible rfl
                rotate_left
                · simp only [Act.put, List.setIfInBounds_toArray, List.set_cons_zero, List.set_cons_succ, i64_w, i32_w]
                  rfl
                refine pure_ (i := 2) (N := some 20) (v := ?_) (a' := ?_) #[true, true, true, false, false, false, false, false, false, false] rfl rfl (any_of HT_.out (by kernel_rfl)) (fun _ _ _ h => h) (Or.inl ⟨by rfl, ?_⟩) ?_ ?_
                rotate_left
                · intro w'
                  go_simp
                  with_reducible rfl
                rotate_left
                · simp only [Act.put, List.setIfInBounds_toArray, List.set_cons_zero, List.set_cons_succ, i64_w, i32_w]
                  rfl
                refine pure_ (i := 4) (N := some 22) (v := ?_) (a' := ?_) #[true, true, true, false, true, false, false, false, false, false] rfl rfl (any_of HT_.out (by kernel_rfl)) (fun _ _ _ h => h) (Or.inl ⟨by rfl, ?_⟩) ?_ ?_
                rotate_left
                · intro w'
                  go_simp
                  with_reducible rfl
                rotate_left
                · simp only [Act.put, List.setIfInBounds_toArray, List.set_cons_zero, List.set_cons_succ, i64_w, i32_w]
                  rfl
                refine pure_ (i := 5) (N := some 23) (v := ?_) (a' := ?_) #[true, true, true, false, true, true, false, false, false, false] rfl rfl (any_of HT_.out (by kernel_rfl)) (fun _ _ _ h => h) (Or.inl ⟨by rfl, ?_⟩) ?_ ?_
                rotate_left
                · intro w'
                  go_simp
                  with_reducible rfl
                rotate_left
                · simp only [Act.put, List.setIfInBounds_toArray, List.set_cons_zero, List.set_cons_succ, i64_w, i32_w]
                  rfl
                refine pure_ (i := 6) (N := some 24) (v := ?_) (a' := ?_) #[true, true, true, false, true, true, true, false, false, false] rfl rfl (any_of HT_.out (by kernel_rfl)) (fun _ _ _ h => h) (Or.inl ⟨by rfl, ?_⟩) ?_ ?_
                rotate_left
                · intro w'
                  go_simp
                  with_reducible rfl
                rotate_left
                · simp only [Act.put, List.setIfInBounds_toArray, List.set_cons_zero, List.set_cons_succ, i64_w, i32_w]
                  rfl
                refine take_ (i := 3) (N := some 21) (v := ?_) (a' := ?_) #[true, true, true, true, true, true, true, false, false, false] rfl rfl (take_ofW HT_.out HW_.out (by kernel_rfl)) (fun _ _ _ h => h) (Or.inl ⟨by rfl, ?_⟩) hHeld ?_ ?_
                rotate_left
                · rintro w' ⟨s0, s1, s2, s3, s4, s5, s6, s7, s8, s9, s10, s11, s12, s13, s14, s15, s16, s17, s18, s19⟩
                  go_simp
                  with_reducible rfl
                rotate_left
                · simp only [Act.put, List.setIfInBounds_toArray, List.set_cons_zero, List.set_cons_succ, i64_w, i32_w]
                  rfl
                refine take_ (i := 7) (N := some 25) (v := ?_) (a' := ?_) #[true, true, true, true, true, true, true, true, false, false] rfl rfl (take_ofW HT_.out HW_.out (by kernel_rfl)) (fun _ _ _ h => h) (Or.inl ⟨by rfl, ?_⟩) hHeld ?_ ?_
                rotate_left
                · rintro w' ⟨s0, s1, s2, s3, s4, s5, s6, s7, s8, s9, s10, s11, s12, s13, s14, s15, s16, s17, s18, s19⟩
                  go_simp
                  with_reducible rfl
                rotate_left
                · simp only [Act.put, List.setIfInBounds_toArray, List.set_cons_zero, List.set_cons_succ, i64_w, i32_w]
                  rfl
                refine one_ (i := 8) (N := some 26) #[true, true, true, true, true, true, true, true, true, false] rfl rfl (one_of HT_.out (by kernel_rfl)) (by decide) (fun K hK => ?_)
                refine goes_ Try.func21 (by kernel_rfl) rfl #[.agg #[.int .i64 ((rd_T27 l0 x5_1).f0), .int .u64 ((rd_T27 l0 x5_1).f1), .int .u64 ((rd_T27 l0 x5_1).f2), .int .u64 ((rd_T27 l0 x5_1).f3), .int .u64 ((rd_T27 l0 x5_1).f4), .int .u64 ((rd_T27 l0 x5_1).f5), .int .u64 ((rd_T27 l0 x5_1).f6), .bool ((rd_T27 l0 x5_1).f7), .slice A466_8 ((rd_T27 l0 x5_1).f8).length c466_8, .slice A466_9 ((rd_T27 l0 x5_1).f9).length c466_9], .agg #[.int .i64 ((rd_T27 l1 x5_1).f0), .int .u64 ((rd_T27 l1 x5_1).f1), .int .u64 ((rd_T27 l1 x5_1).f2), .int .u64 ((rd_T27 l1 x5_1).f3), .int .u64 ((rd_T27 l1 x5_1).f4), .int .u64 ((rd_T27 l1 x5_1).f5), .int .u64 ((rd_T27 l1 x5_1).f6), .bool ((rd_T27 l1 x5_1).f7), .slice A467_8 ((rd_T27 l1 x5_1).f8).length c467_8, .slice A467_9 ((rd_T27 l1 x5_1).f9).length c467_9]] (by rfl) rfl rfl (by (try simp only [List.map_toArray, List.map_cons, List.map_nil]); first | done | rfl | (simp only [List.length_drop, List.length_take]; rfl)) ?_
                with_reducible refine (wigwagref05_Same.calls k1 ((rd_T27 l0 x5_1).f0) ((rd_T27 l0 x5_1).f1) ((rd_T27 l0 x5_1).f2) ((rd_T27 l0 x5_1).f3) ((rd_T27 l0 x5_1).f4) ((rd_T27 l0 x5_1).f5) ((rd_T27 l0 x5_1).f6) ((rd_T27 l0 x5_1).f7) _ _ ((rd_T27 l0 x5_1).f8) _ _ ((rd_T27 l0 x5_1).f9) ((rd_T27 l1 x5_1).f0) ((rd_T27 l1 x5_1).f1) ((rd_T27 l1 x5_1).f2) ((rd_T27 l1 x5_1).f3) ((rd_T27 l1 x5_1).f4) ((rd_T27 l1 x5_1).f5) ((rd_T27 l1 x5_1).f6) ((rd_T27 l1 x5_1).f7) _ _ ((rd_T27 l1 x5_1).f8) _ _ ((rd_T27 l1 x5_1).f9) true _ ?side1 ?side2 ?side3 ?side4 ?side5 ?side6 ?side7 ?side8 A7.out).mono ?_
                (case side1 => repeat (first | exact (Kd.C_below HR466_8.out HB.out) | (with_reducible refine Kd.C_alloc ?_ _) | (with_reducible refine Kd.C_drewN ?_ _) | (with_reducible refine Kd.C_drew ?_)))
                (case side2 => exact HC466_8.out)
                (case side3 => repeat (first | exact (Kd.C_below HR466_9.out HB.out) | (with_reducible refine Kd.C_alloc ?_ _) | (with_reducible refine Kd.C_drewN ?_ _) | (with_reducible refine Kd.C_drew ?_)))
                (case side4 => exact HC466_9.out)
                (case side5 => repeat (first | exact (Kd.C_below HR467_8.out HB.out) | (with_reducible refine Kd.C_alloc ?_ _) | (with_reducible refine Kd.C_drewN ?_ _) | (with_reducible refine Kd.C_drew ?_)))
                (case side6 => exact HC467_8.out)
                (case side7 => repeat (first | exact (Kd.C_below HR467_9.out HB.out) | (with_reducible refine Kd.C_alloc ?_ _) | (with_reducible refine Kd.C_drewN ?_ _) | (with_reducible refine Kd.C_drew ?_)))
                (case side8 => exact HC467_9.out)
                rintro e w10 ⟨rfl, hb⟩
                refine ⟨_, rfl, ?_⟩
                have n0_ := Aside0.mk (below_step (by repeat (first | (with_reducible first | exact HB.out | apply below_alloc | apply pw_below_drewN | apply below_drew1) | exact HB.out)) hb)
                clear HB
                have HB := n0_
                clear n0_
                (try clear hb)
                (try clear hb2)
                (try clear hk)
                (try clear hi)
                refine hK.out _ _ ⟨((HB.out.cell (World.block_lt_of_cell? w _ hw466_0)).trans hw466_0), ((HB.out.cell (World.block_lt_of_cell? w _ hw466_1)).trans hw466_1), ((HB.out.cell (World.block_lt_of_cell? w _ hw466_2)).trans hw466_2), ((HB.out.cell (World.block_lt_of_cell? w _ hw466_3)).trans hw466_3), ((HB.out.cell (World.block_lt_of_cell? w _ hw466_4)).trans hw466_4), ((HB.out.cell (World.block_lt_of_cell? w _ hw466_5)).trans hw466_5), ((HB.out.cell (World.block_lt_of_cell? w _ hw466_6)).trans hw466_6), ((HB.out.cell (World.block_lt_of_cell? w _ hw466_7)).trans hw466_7), ((HB.out.cell (World.block_lt_of_cell? w _ hw466_8)).trans hw466_8), ((HB.out.cell (World.block_lt_of_cell? w _ hw466_9)).trans hw466_9), ((HB.out.cell (World.block_lt_of_cell? w _ hw467_0)).trans hw467_0), ((HB.out.cell (World.block_lt_of_cell? w _ hw467_1)).trans hw467_1), ((HB.out.cell (World.block_lt_of_cell? w _ hw467_2)).trans hw467_2), ((HB.out.cell (World.block_lt_of_cell? w _ hw467_3)).trans hw467_3), ((HB.out.cell (World.block_lt_of_cell? w _ hw467_4)).trans hw467_4), ((HB.out.cell (World.block_lt_of_cell? w _ hw467_5)).trans hw467_5), ((HB.out.cell (World.block_lt_of_cell? w _ hw467_6)).trans hw467_6), ((HB.out.cell (World.block_lt_of_cell? w _ hw467_7)).trans hw467_7), ((HB.out.cell (World.block_lt_of_cell? w _ hw467_8)).trans hw467_8), ((HB.out.cell (World.block_lt_of_cell? w _ hw467_9)).trans hw467_9)⟩ (fun hHeld => ?_)
                clear hK K
                refine norm_ (a' := ?_) ?_ ?_
                rotate_left
                · show Act.put _ (some 26) _ = _
                  simp only [Act.put, List.setIfInBounds_toArray, List.set_cons_zero, List.set_cons_succ, i64_w, i32_w]
                  rfl
                refine pure_ (i := 9) (N := some 6) (v := ?_) (a' := ?_) #[true, true, true, true, true, true, true, true, true, true] rfl rfl (any_of HT_.out (by kernel_rfl)) (fun _ _ _ h => h) (Or.inl ⟨by rfl, ?_⟩) ?_ ?_
                rotate_left
                · intro w'
                  go_simp
                  with_reducible rfl
                rotate_left
                · simp only [Act.put, List.setIfInBounds_toArray, List.set_cons_zero, List.set_cons_succ, i64_w, i32_w]
                  rfl
                refine done_ (done_of HT_.out (by kernel_rfl)) ?_
                try go_wp2
                go_roundg k1
                case measure => have := HK1.out; omega
                case rel => exact ⟨(wrap64 (x5_1 + 1)), (by first | rfl | (simp; done) | (simp [*]; done)), H', ⟨by have := HK1.out; omega⟩, ⟨by repeat (first | (with_reducible first | exact HB.out | apply below_alloc | apply pw_below_drewN | apply below_drew1) | exact HB.out)⟩⟩
              · replace c8 := Bool.eq_false_iff.mpr c8
                subst c8
                have H1 : (some false) = some r := by rw [if_neg (show ¬ (false = true) by decide)] at H; exact H
                clear H
                have H := H1
                clear H1
                obtain rfl := Option.some.inj H
                try go_wp2
                have n0_ := Aside0.mk (below_drew1 HB.out)
                clear HB
                have HB := n0_
                clear n0_
                have p466 : 0 ≤ (x5_1 : Int) := of_decide_eq_true (by first | (with_reducible assumption) | assumption)
                have q466 : x5_1 < (l0.length : Int) := of_decide_eq_true (by first | (with_reducible assumption) | assumption)
                obtain ⟨ad466, A466_8, c466_8, A466_9, c466_9, e466, hx466_0, hx466_1, hx466_2, hx466_3, hx466_4, hx466_5, hx466_6, hx466_7, hx466_8, hx466_9, hl466_8, hi466_8, hl466_9, hi466_9⟩ := at_T27 HR0.out x5_1 p466 q466
                have hw466_9 := hx466_9
                have hw466_8 := hx466_8
                have hw466_7 := hx466_7
                have hw466_6 := hx466_6
                have hw466_5 := hx466_5
                have hw466_4 := hx466_4
                have hw466_3 := hx466_3
                have hw466_2 := hx466_2
                have hw466_1 := hx466_1
                have hw466_0 := hx466_0
                cases e466
                replace hx466_0 := (HB.out.cell (World.block_lt_of_cell? w _ hx466_0)).trans hx466_0
                replace hx466_1 := (HB.out.cell (World.block_lt_of_cell? w _ hx466_1)).trans hx466_1
                replace hx466_2 := (HB.out.cell (World.block_lt_of_cell? w _ hx466_2)).trans hx466_2
                replace hx466_3 := (HB.out.cell (World.block_lt_of_cell? w _ hx466_3)).trans hx466_3
                replace hx466_4 := (HB.out.cell (World.block_lt_of_cell? w _ hx466_4)).trans hx466_4
                replace hx466_5 := (HB.out.cell (World.block_lt_of_cell? w _ hx466_5)).trans hx466_5
                replace hx466_6 := (HB.out.cell (World.block_lt_of_cell? w _ hx466_6)).trans hx466_6
                replace hx466_7 := (HB.out.cell (World.block_lt_of_cell? w _ hx466_7)).trans hx466_7
                replace hx466_8 := (HB.out.cell (World.block_lt_of_cell? w _ hx466_8)).trans hx466_8
                replace hx466_9 := (HB.out.cell (World.block_lt_of_cell? w _ hx466_9)).trans hx466_9
                have HR466_8 := Aside0.mk hi466_8
                have HC466_8 := Aside0.mk hl466_8
                clear hi466_8 hl466_8
                have HR466_9 := Aside0.mk hi466_9
                have HC466_9 := Aside0.mk hl466_9
                clear hi466_9 hl466_9
                replace p466 := eq_true p466
                replace q466 := eq_true q466
                have p467 : 0 ≤ (x5_1 : Int) := of_decide_eq_true (by first | (with_reducible assumption) | assumption)
                have q467 : x5_1 < (l1.length : Int) := of_decide_eq_true (by first | (with_reducible assumption) | assumption)
                obtain ⟨ad467, A467_8, c467_8, A467_9, c467_9, e467, hx467_0, hx467_1, hx467_2, hx467_3, hx467_4, hx467_5, hx467_6, hx467_7, hx467_8, hx467_9, hl467_8, hi467_8, hl467_9, hi467_9⟩ := at_T27 HR1.out x5_1 p467 q467
                have hw467_9 := hx467_9
                have hw467_8 := hx467_8
                have hw467_7 := hx467_7
                have hw467_6 := hx467_6
                have hw467_5 := hx467_5
                have hw467_4 := hx467_4
                have hw467_3 := hx467_3
                have hw467_2 := hx467_2
                have hw467_1 := hx467_1
                have hw467_0 := hx467_0
                cases e467
                replace hx467_0 := (HB.out.cell (World.block_lt_of_cell? w _ hx467_0)).trans hx467_0
                replace hx467_1 := (HB.out.cell (World.block_lt_of_cell? w _ hx467_1)).trans hx467_1
                replace hx467_2 := (HB.out.cell (World.block_lt_of_cell? w _ hx467_2)).trans hx467_2
                replace hx467_3 := (HB.out.cell (World.block_lt_of_cell? w _ hx467_3)).trans hx467_3
                replace hx467_4 := (HB.out.cell (World.block_lt_of_cell? w _ hx467_4)).trans hx467_4
                replace hx467_5 := (HB.out.cell (World.block_lt_of_cell? w _ hx467_5)).trans hx467_5
                replace hx467_6 := (HB.out.cell (World.block_lt_of_cell? w _ hx467_6)).trans hx467_6
                replace hx467_7 := (HB.out.cell (World.block_lt_of_cell? w _ hx467_7)).trans hx467_7
                replace hx467_8 := (HB.out.cell (World.block_lt_of_cell? w _ hx467_8)).trans hx467_8
                replace hx467_9 := (HB.out.cell (World.block_lt_of_cell? w _ hx467_9)).trans hx467_9
                have HR467_8 := Aside0.mk hi467_8
                have HC467_8 := Aside0.mk hl467_8
                clear hi467_8 hl467_8
                have HR467_9 := Aside0.mk hi467_9
                have HC467_9 := Aside0.mk hl467_9
                clear hi467_9 hl467_9
                replace p467 := eq_true p467
                replace q467 := eq_true q467
                refine start_ (n := 10) (S := fun w' => w'.cell? (ad466.add ((x5_1).toNat * 10)) = some (.int .i64 ((rd_T27 l0 x5_1).f0)) ∧ w'.cell? ⟨(ad466.add ((x5_1).toNat * 10)).block, (ad466.add ((x5_1).toNat * 10)).off + 1, none⟩ = some (.int .u64 ((rd_T27 l0 x5_1).f1)) ∧ w'.cell? ⟨(ad466.add ((x5_1).toNat * 10)).block, (ad466.add ((x5_1).toNat * 10)).off + 2, none⟩ = some (.int .u64 ((rd_T27 l0 x5_1).f2)) ∧ w'.cell? ⟨(ad466.add ((x5_1).toNat * 10)).block, (ad466.add ((x5_1).toNat * 10)).off + 3, none⟩ = some (.int .u64 ((rd_T27 l0 x5_1).f3)) ∧ w'.cell? ⟨(ad466.add ((x5_1).toNat * 10)).block, (ad466.add ((x5_1).toNat * 10)).off + 4, none⟩ = some (.int .u64 ((rd_T27 l0 x5_1).f4)) ∧ w'.cell? ⟨(ad466.add ((x5_1).toNat * 10)).block, (ad466.add ((x5_1).toNat * 10)).off + 5, none⟩ = some (.int .u64 ((rd_T27 l0 x5_1).f5)) ∧ w'.cell? ⟨(ad466.add ((x5_1).toNat * 10)).block, (ad466.add ((x5_1).toNat * 10)).off + 6, none⟩ = some (.int .u64 ((rd_T27 l0 x5_1).f6)) ∧ w'.cell? ⟨(ad466.add ((x5_1).toNat * 10)).block, (ad466.add ((x5_1).toNat * 10)).off + 7, none⟩ = some (.bool ((rd_T27 l0 x5_1).f7)) ∧ w'.cell? ⟨(ad466.add ((x5_1).toNat * 10)).block, (ad466.add ((x5_1).toNat * 10)).off + 8, none⟩ = some (.slice A466_8 ((rd_T27 l0 x5_1).f8).length c466_8) ∧ w'.cell? ⟨(ad466.add ((x5_1).toNat * 10)).block, (ad466.add ((x5_1).toNat * 10)).off + 9, none⟩ = some (.slice A466_9 ((rd_T27 l0 x5_1).f9).length c466_9) ∧ w'.cell? (ad467.add ((x5_1).toNat * 10)) = some (.int .i64 ((rd_T27 l1 x5_1).f0)) ∧ w'.cell? ⟨(ad467.add ((x5_1).toNat * 10)).block, (ad467.add ((x5_1).toNat * 10)).off + 1, none⟩ = some (.int .u64 ((rd_T27 l1 x5_1).f1)) ∧ w'.cell? ⟨(ad467.add ((x5_1).toNat * 10)).block, (ad467.add ((x5_1).toNat * 10)).off + 2, none⟩ = some (.int .u64 ((rd_T27 l1 x5_1).f2)) ∧ w'.cell? ⟨(ad467.add ((x5_1).toNat * 10)).block, (ad467.add ((x5_1).toNat * 10)).off + 3, none⟩ = some (.int .u64 ((rd_T27 l1 x5_1).f3)) ∧ w'.cell? ⟨(ad467.add ((x5_1).toNat * 10)).block, (ad467.add ((x5_1).toNat * 10)).off + 4, none⟩ = some (.int .u64 ((rd_T27 l1 x5_1).f4)) ∧ w'.cell? ⟨(ad467.add ((x5_1).toNat * 10)).block, (ad467.add ((x5_1).toNat * 10)).off + 5, none⟩ = some (.int .u64 ((rd_T27 l1 x5_1).f5)) ∧ w'.cell? ⟨(ad467.add ((x5_1).toNat * 10)).block, (ad467.add ((x5_1).toNat * 10)).off + 6, none⟩ = some (.int .u64 ((rd_T27 l1 x5_1).f6)) ∧ w'.cell? ⟨(ad467.add ((x5_1).toNat * 10)).block, (ad467.add ((x5_1).toNat * 10)).off + 7, none⟩ = some (.bool ((rd_T27 l1 x5_1).f7)) ∧ w'.cell? ⟨(ad467.add ((x5_1).toNat * 10)).block, (ad467.add ((x5_1).toNat * 10)).off + 8, none⟩ = some (.slice A467_8 ((rd_T27 l1 x5_1).f8).length c467_8) ∧ w'.cell? ⟨(ad467.add ((x5_1).toNat * 10)).block, (ad467.add ((x5_1).toNat * 10)).off + 9, none⟩ = some (.slice A467_9 ((rd_T27 l1 x5_1).f9).length c467_9)) (ds := []) #[false, false, false, false, false, false, false, false, false, false] (by kernel_rfl) rfl rfl ⟨((HB.out.cell (World.block_lt_of_cell? w _ hw466_0)).trans hw466_0), ((HB.out.cell (World.block_lt_of_cell? w _ hw466_1)).trans hw466_1), ((HB.out.cell (World.block_lt_of_cell? w _ hw466_2)).trans hw466_2), ((HB.out.cell (World.block_lt_of_cell? w _ hw466_3)).trans hw466_3), ((HB.out.cell (World.block_lt_of_cell? w _ hw466_4)).trans hw466_4), ((HB.out.cell (World.block_lt_of_cell? w _ hw466_5)).trans hw466_5), ((HB.out.cell (World.block_lt_of_cell? w _ hw466_6)).trans hw466_6), ((HB.out.cell (World.block_lt_of_cell? w _ hw466_7)).trans hw466_7), ((HB.out.cell (World.block_lt_of_cell? w _ hw466_8)).trans hw466_8), ((HB.out.cell (World.block_lt_of_cell? w _ hw466_9)).trans hw466_9), ((HB.out.cell (World.block_lt_of_cell? w _ hw467_0)).trans hw467_0), ((HB.out.cell (World.block_lt_of_cell? w _ hw467_1)).trans hw467_1), ((HB.out.cell (World.block_lt_of_cell? w _ hw467_2)).trans hw467_2), ((HB.out.cell (World.block_lt_of_cell? w _ hw467_3)).trans hw467_3), ((HB.out.cell (World.block_lt_of_cell? w _ hw467_4)).trans hw467_4), ((HB.out.cell (World.block_lt_of_cell? w _ hw467_5)).trans hw467_5), ((HB.out.cell (World.block_lt_of_cell? w _ hw467_6)).trans hw467_6), ((HB.out.cell (World.block_lt_of_cell? w _ hw467_7)).trans hw467_7), ((HB.out.cell (World.block_lt_of_cell? w _ hw467_8)).trans hw467_8), ((HB.out.cell (World.block_lt_of_cell? w _ hw467_9)).trans hw467_9)⟩ (fun hHeld => ?_); refine with_tabW wigwagref05_SameAll.tab6 wigwagref05_SameAll.bits6 (fun HT_ HW_ => ?_)
                generalize wr.drew = w11 at HB HR466_8 HR466_9 HR467_8 HR467_9 hx466_0 hx466_1 hx466_2 hx466_3 hx466_4 hx466_5 hx466_6 hx466_7 hx466_8 hx466_9 hx467_0 hx467_1 hx467_2 hx467_3 hx467_4 hx467_5 hx467_6 hx467_7 hx467_8 hx467_9 hHeld ⊢
                refine pure_ (i := 0) (N := some 18) (v := ?_) (a' := ?_) #[true, false, false, false, false, false, false, false, false, false] rfl rfl (any_of HT_.out (by kernel_rfl)) (fun _ _ _ h => h) (Or.inl ⟨by rfl, ?_⟩) ?_ ?_
                rotate_left
                · intro w'
                  go_simp
                  with_reducible rfl
                rotate_left
                · simp only [Act.put, List.setIfInBounds_toArray, List.set_cons_zero, List.set_cons_succ, i64_w, i32_w]
                  rfl
                refine pure_ (i := 1) (N := some 19) (v := ?_) (a' := ?_) #[true, true, false, false, false, false, false, false, false, false] rfl rfl (any_of HT_.out (by kernel_rfl)) (fun _ _ _ h => h) (Or.inl ⟨by rfl, ?_⟩) ?_ ?_
                rotate_left
                · intro w'
                  go_simp
                  with_reducible rfl
                rotate_left
                · simp only [Act.put, List.setIfInBounds_toArray, List.set_cons_zero, List.set_cons_succ, i64_w, i32_w]
                  rfl
                refine pure_ (i := 2) (N := some 20) (v := ?_) (a' := ?_) #[true, true, true, false, false, false, false, false, false, false] rfl rfl (any_of HT_.out (by kernel_rfl)) (fun _ _ _ h => h) (Or.inl ⟨by rfl, ?_⟩) ?_ ?_
                rotate_left
                · intro w'
                  go_simp
                  with_reducible rfl
                rotate_left
                · simp only [Act.put, List.setIfInBounds_toArray, List.set_cons_zero, List.set_cons_succ, i64_w, i32_w]
                  rfl
                refine pure_ (i := 4) (N := some 22) (v := ?_) (a' := ?_) #[true, true, true, false, true, false, false, false, false, false] rfl rfl (any_of HT_.out (by kernel_rfl)) (fun _ _ _ h => h) (Or.inl ⟨by rfl, ?_⟩) ?_ ?_
                rotate_left
                · intro w'
                  go_simp
                  with_reducible rfl
                rotate_left
                · simp only [Act.put, List.setIfInBounds_toArray, List.set_cons_zero, List.set_cons_succ, i64_w, i32_w]
                  rfl
                refine pure_ (i := 5) (N := some 23) (v := ?_) (a' := ?_) #[true, true, true, false, true, true, false, false, false, false] rfl rfl (any_of HT_.out (by kernel_rfl)) (fun _ _ _ h => h) (Or.inl ⟨by rfl, ?_⟩) ?_ ?_
                rotate_left
                · intro w'
                  go_simp
                  with_reducible rfl
                rotate_left
                · simp only [Act.put, List.setIfInBounds_toArray, List.set_cons_zero, List.set_cons_succ, i64_w, i32_w]
                  rfl
                refine pure_ (i := 6) (N := some 24) (v := ?_) (a' := ?_) #[true, true, true, false, true, true, true, false, false, false] rfl rfl (any_of HT_.out (by kernel_rfl)) (fun _ _ _ h => h) (Or.inl ⟨by rfl, ?_⟩) ?_ ?_
                rotate_left
                · intro w'
                  go_simp
                  with_reducible rfl
                rotate_left
                · simp only [Act.put, List.setIfInBounds_toArray, List.set_cons_zero, List.set_cons_succ, i64_w, i32_w]
                  rfl
                refine take_ (i := 3) (N := some 21) (v := ?_) (a' := ?_) #[true, true, true, true, true, true, true, false, false, false] rfl rfl (take_ofW HT_.out HW_.out (by kernel_rfl)) (fun _ _ _ h => h) (Or.inl ⟨by rfl, ?_⟩) hHeld ?_ ?_
                rotate_left
                · rintro w' ⟨s0, s1, s2, s3, s4, s5, s6, s7, s8, s9, s10, s11, s12, s13, s14, s15, s16, s17, s18, s19⟩
                  go_simp
                  with_reducible rfl
                rotate_left
                · simp only [Act.put, List.setIfInBounds_toArray, List.set_cons_zero, List.set_cons_succ, i64_w, i32_w]
                  rfl
                refine take_ (i := 7) (N := some 25) (v := ?_) (a' := ?_) #[true, true, true, true, true, true, true, true, false, false] rfl rfl (take_ofW HT_.out HW_.out (by kernel_rfl)) (fun _ _ _ h => h) (Or.inl ⟨by rfl, ?_⟩) hHeld ?_ ?_
                rotate_left
                · rintro w' ⟨s0, s1, s2, s3, s4, s5, s6, s7, s8, s9, s10, s11, s12, s13, s14, s15, s16, s17, s18, s19⟩
                  go_simp
                  with_reducible rfl
                rotate_left
                · simp only [Act.put, List.setIfInBounds_toArray, List.set_cons_zero, List.set_cons_succ, i64_w, i32_w]
                  rfl
                refine one_ (i := 8) (N := some 26) #[true, true, true, true, true, true, true, true, true, false] rfl rfl (one_of HT_.out (by kernel_rfl)) (by decide) (fun K hK => ?_)
                refine goes_ Try.func21 (by kernel_rfl) rfl #[.agg #[.int .i64 ((rd_T27 l0 x5_1).f0), .int .u64 ((rd_T27 l0 x5_1).f1), .int .u64 ((rd_T27 l0 x5_1).f2), .int .u64 ((rd_T27 l0 x5_1).f3), .int .u64 ((rd_T27 l0 x5_1).f4), .int .u64 ((rd_T27 l0 x5_1).f5), .int .u64 ((rd_T27 l0 x5_1).f6), .bool ((rd_T27 l0 x5_1).f7), .slice A466_8 ((rd_T27 l0 x5_1).f8).length c466_8, .slice A466_9 ((rd_T27 l0 x5_1).f9).length c466_9], .agg #[.int .i64 ((rd_T27 l1 x5_1).f0), .int .u64 ((rd_T27 l1 x5_1).f1), .int .u64 ((rd_T27 l1 x5_1).f2), .int .u64 ((rd_T27 l1 x5_1).f3), .int .u64 ((rd_T27 l1 x5_1).f4), .int .u64 ((rd_T27 l1 x5_1).f5), .int .u64 ((rd_T27 l1 x5_1).f6), .bool ((rd_T27 l1 x5_1).f7), .slice A467_8 ((rd_T27 l1 x5_1).f8).length c467_8, .slice A467_9 ((rd_T27 l1 x5_1).f9).length c467_9]] (by rfl) rfl rfl (by (try simp only [List.map_toArray, List.map_cons, List.map_nil]); first | done | rfl | (simp only [List.length_drop, List.length_take]; rfl)) ?_
                with_reducible refine (wigwagref05_Same.calls k1 ((rd_T27 l0 x5_1).f0) ((rd_T27 l0 x5_1).f1) ((rd_T27 l0 x5_1).f2) ((rd_T27 l0 x5_1).f3) ((rd_T27 l0 x5_1).f4) ((rd_T27 l0 x5_1).f5) ((rd_T27 l0 x5_1).f6) ((rd_T27 l0 x5_1).f7) _ _ ((rd_T27 l0 x5_1).f8) _ _ ((rd_T27 l0 x5_1).f9) ((rd_T27 l1 x5_1).f0) ((rd_T27 l1 x5_1).f1) ((rd_T27 l1 x5_1).f2) ((rd_T27 l1 x5_1).f3) ((rd_T27 l1 x5_1).f4) ((rd_T27 l1 x5_1).f5) ((rd_T27 l1 x5_1).f6) ((rd_T27 l1 x5_1).f7) _ _ ((rd_T27 l1 x5_1).f8) _ _ ((rd_T27 l1 x5_1).f9) false _ ?side1 ?side2 ?side3 ?side4 ?side5 ?side6 ?side7 ?side8 A7.out).mono ?_
                (case side1 => repeat (first | exact (Kd.C_below HR466_8.out HB.out) | (with_reducible refine Kd.C_alloc ?_ _) | (with_reducible refine Kd.C_drewN ?_ _) | (with_reducible refine Kd.C_drew ?_)))
                (case side2 => exact HC466_8.out)
                (case side3 => repeat (first | exact (Kd.C_below HR466_9.out HB.out) | (with_reducible refine Kd.C_alloc ?_ _) | (with_reducible refine Kd.C_drewN ?_ _) | (with_reducible refine Kd.C_drew ?_)))
                (case side4 => exact HC466_9.out)
                (case side5 => repeat (first | exact (Kd.C_below HR467_8.out HB.out) | (with_reducible refine Kd.C_alloc ?_ _) | (with_reducible refine Kd.C_drewN ?_ _) | (with_reducible refine Kd.C_drew ?_)))
                (case side6 => exact HC467_8.out)
                (case side7 => repeat (first | exact (Kd.C_below HR467_9.out HB.out) | (with_reducible refine Kd.C_alloc ?_ _) | (with_reducible refine Kd.C_drewN ?_ _) | (with_reducible refine Kd.C_drew ?_)))
                (case side8 => exact HC467_9.out)
                rintro e w12 ⟨rfl, hb⟩
                refine ⟨_, rfl, ?_⟩
                have n0_ := Aside0.mk (below_step (by repeat (first | (with_reducible first | exact HB.out | apply below_alloc | apply pw_below_drewN | apply below_drew1) | exact HB.out)) hb)
                clear HB
                have HB := n0_
                clear n0_
                (try clear hb)
                (try clear hb2)
                (try clear hk)
                (try clear hi)
                refine hK.out _ _ ⟨((HB.out.cell (World.block_lt_of_cell? w _ hw466_0)).trans hw466_0), ((HB.out.cell (World.block_lt_of_cell? w _ hw466_1)).trans hw466_1), ((HB.out.cell (World.block_lt_of_cell? w _ hw466_2)).trans hw466_2), ((HB.out.cell (World.block_lt_of_cell? w _ hw466_3)).trans hw466_3), ((HB.out.cell (World.block_lt_of_cell? w _ hw466_4)).trans hw466_4), ((HB.out.cell (World.block_lt_of_cell? w _ hw466_5)).trans hw466_5), ((HB.out.cell (World.block_lt_of_cell? w _ hw466_6)).trans hw466_6), ((HB.out.cell (World.block_lt_of_cell? w _ hw466_7)).trans hw466_7), ((HB.out.cell (World.block_lt_of_cell? w _ hw466_8)).trans hw466_8), ((HB.out.cell (World.block_lt_of_cell? w _ hw466_9)).trans hw466_9), ((HB.out.cell (World.block_lt_of_cell? w _ hw467_0)).trans hw467_0), ((HB.out.cell (World.block_lt_of_cell? w _ hw467_1)).trans hw467_1), ((HB.out.cell (World.block_lt_of_cell? w _ hw467_2)).trans hw467_2), ((HB.out.cell (World.block_lt_of_cell? w _ hw467_3)).trans hw467_3), ((HB.out.cell (World.block_lt_of_cell? w _ hw467_4)).trans hw467_4), ((HB.out.cell (World.block_lt_of_cell? w _ hw467_5)).trans hw467_5), ((HB.out.cell (World.block_lt_of_cell? w _ hw467_6)).trans hw467_6), ((HB.out.cell (World.block_lt_of_cell? w _ hw467_7)).trans hw467_7), ((HB.out.cell (World.block_lt_of_cell? w _ hw467_8)).trans hw467_8), ((HB.out.cell (World.block_lt_of_cell? w _ hw467_9)).trans hw467_9)⟩ (fun hHeld => ?_)
                clear hK K
                refine norm_ (a' := ?_) ?_ ?_
                rotate_left
                · show Act.put _ (some 26) _ = _
                  simp only [Act.put, List.setIfInBounds_toArray, List.set_cons_zero, List.set_cons_succ, i64_w, i32_w]
                  rfl
                refine pure_ (i := 9) (N := some 6) (v := ?_) (a' := ?_) #[true, true, true, true, true, true, true, true, true, true] rfl rfl (any_of HT_.out (by kernel_rfl)) (fun _ _ _ h => h) (Or.inl ⟨by rfl, ?_⟩) ?_ ?_
                rotate_left
                · intro w'
                  go_simp
                  with_reducible rfl
                rotate_left
                · simp only [Act.put, List.setIfInBounds_toArray, List.set_cons_zero, List.set_cons_succ, i64_w, i32_w]
                  rfl
                refine done_ (done_of HT_.out (by kernel_rfl)) ?_
                try go_wp2
                go_ret
                exact ⟨by first | rfl | (simp [errW_none, errW_some] <;> rfl) | (simp [*, errW_none, errW_some] <;> rfl), by repeat (first | (with_reducible first | exact HB.out | apply below_alloc | apply pw_below_drewN | apply below_drew1) | exact HB.out)⟩
            · rw [if_neg c6] at H
              exact absurd H (by simp)
          · rw [if_neg c5] at H
            exact absurd H (by simp)
        · rw [if_neg c4] at H
          have c4b0 : decide (x5_1 < (l0.length : Int)) = false := decide_eq_false c4
          clear c4
          obtain rfl := Option.some.inj H
          go_wp2
          go_ret
          exact ⟨by first | rfl | (simp [errW_none, errW_some] <;> rfl) | (simp [*, errW_none, errW_some] <;> rfl), by repeat (first | (with_reducible first | exact HB.out | apply below_alloc | apply pw_below_drewN | apply below_drew1) | exact HB.out)⟩
  · rw [if_neg c3] at H
    have c3b0 : ((l0.length : Int) == (l1.length : Int)) = false := beq_eq_false_iff_ne.mpr c3
    have c3b1 : ((l0.length : Int) != (l1.length : Int)) = true := bne_iff_ne.mpr c3
    have c3b2 : (l0.length == l1.length) = false := by first | simpa using c3 | (simp at c3 ⊢; omega)
    obtain rfl := Option.some.inj H
    go_enter Try.func22, Try.ntmps22
    go_wp2
    go_ret
    exact ⟨by first | rfl | (simp [errW_none, errW_some] <;> rfl) | (simp [*, errW_none, errW_some] <;> rfl), by repeat (first | (with_reducible first | exact HB.out | apply below_alloc | apply pw_below_drewN | apply below_drew1) | exact HB.out)⟩
end Go.Proofs.Ytphakdfholkbdaa.PFra
end
