-- Written by a program of this session (wip/tools/xprint.py) for this claim.
import Derived.Test.YtffanpfimhldhaaPFixx0
import Derived.Test.YtffanpfimhldhaaPFixx1
import Derived.Test.YtffanpfimhldhaaPFixx2
namespace Go.Proofs.Ytffanpfimhldhaa.PFix
open Go.RowKit Go.Proofs.YtffanpfimhldhaaW.PrintWords Go.Proofs.YtffanpfimhldhaaW.PrintLast Go.Proofs.YtffanpfimhldhaaW.PrintMore
attribute [local go_sem] max2_int min2_int max_two min_two max_three min_three max_four min_four   -- for this text's walks alone
set_option linter.unusedVariables false
set_option linter.unusedSimpArgs false

/-! ### wigwaglaw01_FixOrders: function 4 -/
mutual
def wigwaglaw01_FixOrders.j0 : Nat → Int → Int → Int → Int → Bool → Bool → Option (Bool)
  | 0, _, _, _, _, _, _ => none
  | k + 1, x0, x1, x2, x3, x9, x11 => (fix_Add.f x0 x1).bind fun t140 => ((fix_Add.f x3 x1).bind fun t141 => (if t140 ≤ t141 then ((fix_SubT.f x0 x1).bind fun t142 => ((fix_SubT.f x3 x1).bind fun t143 => (if t142 ≤ t143 then ((fix_MulT.f x0 x1).bind fun t144 => ((fix_MulT.f x3 x1).bind fun t145 => (wigwaglaw01_FixOrders.j1 k x0 x1 x2 x3 x9 x11 (decide (t144 ≤ t145))))) else (wigwaglaw01_FixOrders.j1 k x0 x1 x2 x3 x9 x11 false)))) else (wigwaglaw01_FixOrders.j1 k x0 x1 x2 x3 x9 x11 false)))
def wigwaglaw01_FixOrders.j1 : Nat → Int → Int → Int → Int → Bool → Bool → Bool → Option (Bool)
  | 0, _, _, _, _, _, _, _ => none
  | k + 1, x0, x1, x2, x3, x9, x11, x12 => if x9 = true then (if x11 = true then (if x12 = true then ((fix_MulDivT.f x0 x1 x2).bind fun t146 => ((fix_MulDivT.f x3 x1 x2).bind fun t147 => (if t146 ≤ t147 then ((fix_Gain.f x0 x1).bind fun t148 => ((fix_Gain.f x3 x1).bind fun t149 => (if t148 ≤ t149 then ((fix_Cbrt.f x0).bind fun t150 => ((fix_Cbrt.f x3).bind fun t151 => (some (decide (t150 ≤ t151))))) else (some false)))) else (some false)))) else (some false)) else (some false)) else (some false)
end
def wigwaglaw01_FixOrders.f (k : Nat) (a0 : Int) (a1 : Int) (a2 : Int) (a3 : Int) : Option (Bool) := (wigwaglaw01_awake.f).bind fun t133 => ((fix_Add.f (mn a0 a3) a1).bind fun t134 => ((fix_Add.f a1 (mn a0 a3)).bind fun t135 => (if t134 = t135 then ((fix_MulT.f (mn a0 a3) a1).bind fun t136 => ((fix_MulT.f a1 (mn a0 a3)).bind fun t137 => (if t136 = t137 then ((fix_MulDivT.f (mn a0 a3) a1 a2).bind fun t138 => ((fix_MulDivT.f a1 (mn a0 a3) a2).bind fun t139 => (wigwaglaw01_FixOrders.j0 k (mn a0 a3) a1 a2 (mx a0 a3) t133 (t138 == t139)))) else (wigwaglaw01_FixOrders.j0 k (mn a0 a3) a1 a2 (mx a0 a3) t133 false)))) else (wigwaglaw01_FixOrders.j0 k (mn a0 a3) a1 a2 (mx a0 a3) t133 false))))
theorem wigwaglaw01_FixOrders.mono_l : ∀ k, (∀ y0 y1 y2 y3 y4 y5, LeO (wigwaglaw01_FixOrders.j0 k y0 y1 y2 y3 y4 y5) (wigwaglaw01_FixOrders.j0 (k + 1) y0 y1 y2 y3 y4 y5)) ∧ (∀ y0 y1 y2 y3 y4 y5 y6, LeO (wigwaglaw01_FixOrders.j1 k y0 y1 y2 y3 y4 y5 y6) (wigwaglaw01_FixOrders.j1 (k + 1) y0 y1 y2 y3 y4 y5 y6))
  | 0 => ⟨fun _ _ _ _ _ _ r h => by simp [wigwaglaw01_FixOrders.j0] at h, fun _ _ _ _ _ _ _ r h => by simp [wigwaglaw01_FixOrders.j1] at h⟩
  | k + 1 => by
    obtain ⟨ih0, ih1⟩ := wigwaglaw01_FixOrders.mono_l k
    refine ⟨?_, ?_⟩
    · intro y0 y1 y2 y3 y4 y5
      unfold wigwaglaw01_FixOrders.j0
      repeat' first
      | (with_reducible exact ih0 _ _ _ _ _ _)
      | (with_reducible exact ih1 _ _ _ _ _ _ _)
      | (with_reducible exact LeO.refl _)
      | (with_reducible exact LeO.none _)
      | (with_reducible refine LeO.ite ?_ ?_)
      | (with_reducible refine LeO.bind ?_ (fun _ => ?_))
      | exact ih0 _ _ _ _ _ _
      | exact ih1 _ _ _ _ _ _ _
      | exact LeO.none _
      | refine LeO.ite ?_ ?_
      | refine LeO.bind ?_ (fun _ => ?_)
    · intro y0 y1 y2 y3 y4 y5 y6
      unfold wigwaglaw01_FixOrders.j1
      repeat' first
      | (with_reducible exact ih0 _ _ _ _ _ _)
      | (with_reducible exact ih1 _ _ _ _ _ _ _)
      | (with_reducible exact LeO.refl _)
      | (with_reducible exact LeO.none _)
      | (with_reducible refine LeO.ite ?_ ?_)
      | (with_reducible refine LeO.bind ?_ (fun _ => ?_))
      | exact ih0 _ _ _ _ _ _
      | exact ih1 _ _ _ _ _ _ _
      | exact LeO.none _
      | refine LeO.ite ?_ ?_
      | refine LeO.bind ?_ (fun _ => ?_)
theorem wigwaglaw01_FixOrders.mono : ∀ a0 a1 a2 a3 k, LeO (wigwaglaw01_FixOrders.f k a0 a1 a2 a3) (wigwaglaw01_FixOrders.f (k + 1) a0 a1 a2 a3) := by
  intro a0 a1 a2 a3 k
  obtain ⟨ih0, ih1⟩ := wigwaglaw01_FixOrders.mono_l k
  unfold wigwaglaw01_FixOrders.f
  repeat' first
      | (with_reducible exact ih0 _ _ _ _ _ _)
      | (with_reducible exact ih1 _ _ _ _ _ _ _)
      | (with_reducible exact LeO.refl _)
      | (with_reducible exact LeO.none _)
      | (with_reducible refine LeO.ite ?_ ?_)
      | (with_reducible refine LeO.bind ?_ (fun _ => ?_))
      | exact ih0 _ _ _ _ _ _
      | exact ih1 _ _ _ _ _ _ _
      | exact LeO.none _
      | refine LeO.ite ?_ ?_
      | refine LeO.bind ?_ (fun _ => ?_)
set_option maxHeartbeats 8000000 in
set_option maxRecDepth 100000 in
theorem wigwaglaw01_FixOrders.calls (k : Nat) (a0 : Int) (a1 : Int) (a2 : Int) (a3 : Int) (r : Bool) (w : World) (h : wigwaglaw01_FixOrders.f k a0 a1 a2 a3 = some r) :
    Calls Try.prog 4 #[.int .u64 a0, .int .u64 a1, .int .u64 a2, .int .u64 a3] w fun e w' => e = .returned (.bool r) ∧ Below w.heap.size w w' := by
  have HB := Aside0.mk (Below.refl w.heap.size w)
  have H : ((wigwaglaw01_awake.f).bind fun t133 => ((fix_Add.f (mn a0 a3) a1).bind fun t134 => ((fix_Add.f a1 (mn a0 a3)).bind fun t135 => (if t134 = t135 then ((fix_MulT.f (mn a0 a3) a1).bind fun t136 => ((fix_MulT.f a1 (mn a0 a3)).bind fun t137 => (if t136 = t137 then ((fix_MulDivT.f (mn a0 a3) a1 a2).bind fun t138 => ((fix_MulDivT.f a1 (mn a0 a3) a2).bind fun t139 => (wigwaglaw01_FixOrders.j0 k (mn a0 a3) a1 a2 (mx a0 a3) t133 (t138 == t139)))) else (wigwaglaw01_FixOrders.j0 k (mn a0 a3) a1 a2 (mx a0 a3) t133 false)))) else (wigwaglaw01_FixOrders.j0 k (mn a0 a3) a1 a2 (mx a0 a3) t133 false))))) = some r := h
  clear h
  replace H := Option.bind_eq_some_iff.mp H
  obtain ⟨t133, A50, H⟩ := H
  replace H : ((fix_Add.f (mn a0 a3) a1).bind fun t134 => ((fix_Add.f a1 (mn a0 a3)).bind fun t135 => (if t134 = t135 then ((fix_MulT.f (mn a0 a3) a1).bind fun t136 => ((fix_MulT.f a1 (mn a0 a3)).bind fun t137 => (if t136 = t137 then ((fix_MulDivT.f (mn a0 a3) a1 a2).bind fun t138 => ((fix_MulDivT.f a1 (mn a0 a3) a2).bind fun t139 => (wigwaglaw01_FixOrders.j0 k (mn a0 a3) a1 a2 (mx a0 a3) t133 (t138 == t139)))) else (wigwaglaw01_FixOrders.j0 k (mn a0 a3) a1 a2 (mx a0 a3) t133 false)))) else (wigwaglaw01_FixOrders.j0 k (mn a0 a3) a1 a2 (mx a0 a3) t133 false)))) = some r := H
  have A5 := Aside0.mk A50
  clear A50
  obtain ⟨ji6, hji6⟩ : ∃ j_ : Int, (mn a0 a3) = j_ := ⟨_, rfl⟩
  replace H : ((fix_Add.f (ji6) a1).bind fun t134 => ((fix_Add.f a1 (ji6)).bind fun t135 => (if t134 = t135 then ((fix_MulT.f (ji6) a1).bind fun t136 => ((fix_MulT.f a1 (ji6)).bind fun t137 => (if t136 = t137 then ((fix_MulDivT.f (ji6) a1 a2).bind fun t138 => ((fix_MulDivT.f a1 (ji6) a2).bind fun t139 => (wigwaglaw01_FixOrders.j0 k ji6 a1 a2 (mx a0 a3) t133 (t138 == t139)))) else (wigwaglaw01_FixOrders.j0 k ji6 a1 a2 (mx a0 a3) t133 false)))) else (wigwaglaw01_FixOrders.j0 k ji6 a1 a2 (mx a0 a3) t133 false)))) = some r := by first | (rw [hji6] at H; exact H) | (simp only [hji6] at H ⊢; exact H)
  (try rw [hji6] at A5)
  have hji6_ : (if a3 < a0 then a3 else a0) = ji6 := hji6
  obtain ⟨ji7, hji7⟩ : ∃ j_ : Int, (mx a0 a3) = j_ := ⟨_, rfl⟩
  replace H : ((fix_Add.f (ji6) a1).bind fun t134 => ((fix_Add.f a1 (ji6)).bind fun t135 => (if t134 = t135 then ((fix_MulT.f (ji6) a1).bind fun t136 => ((fix_MulT.f a1 (ji6)).bind fun t137 => (if t136 = t137 then ((fix_MulDivT.f (ji6) a1 a2).bind fun t138 => ((fix_MulDivT.f a1 (ji6) a2).bind fun t139 => (wigwaglaw01_FixOrders.j0 k ji6 a1 a2 ji7 t133 (t138 == t139)))) else (wigwaglaw01_FixOrders.j0 k ji6 a1 a2 ji7 t133 false)))) else (wigwaglaw01_FixOrders.j0 k ji6 a1 a2 ji7 t133 false)))) = some r := by first | (rw [hji7] at H; exact H) | (simp only [hji7] at H ⊢; exact H)
  (try rw [hji7] at A5)
  have hji7_ : (if a0 < a3 then a3 else a0) = ji7 := hji7
  have HC8 := Aside0.mk H
  clear H
  go_enter Try.func4, Try.ntmps4
  go_upto_region 5 with (first | ((with_reducible refine gate_callee (f := 10) rfl ?_); refine goesL_ (some 13) rfl rfl Try.func10 (by kernel_rfl) rfl #[] rfl (by (try simp only [List.map_toArray, List.map_cons, List.map_nil]); first | done | rfl | (simp only [List.length_drop, List.length_take]; rfl)) ?_; (with_reducible refine (wigwaglaw01_awake.calls  t133 _ A5.out).mono ?_); rintro e w9 ⟨rfl, hb⟩; refine ⟨_, rfl, ?_⟩; have n0_ := Aside0.mk (below_step (by repeat (first | (with_reducible first | exact HB.out | apply below_alloc | apply pw_below_drewN | apply below_drew1) | exact HB.out)) hb); clear HB; have HB := n0_; clear n0_; (try clear hb); (try clear hb2); (try clear hk); (try clear hi)))
  (try simp only [Act.put, List.setIfInBounds_toArray, List.set_cons_zero, List.set_cons_succ])
  go_cut [11] (fun v11 wc => ∃ (kq : Nat) (x11_7 : Bool), v11 = .bool x11_7 ∧ Aside0 (wigwaglaw01_FixOrders.j0 kq ji6 a1 a2 ji7 t133 x11_7 = some r) ∧ Aside0 (kq ≤ k) ∧ Aside0 (Below w.heap.size w wc))
  case first =>
    have H := HC8.out
    clear HC8
    replace H := Option.bind_eq_some_iff.mp H
    obtain ⟨t134, A100, H⟩ := H
    replace H : ((fix_Add.f a1 (ji6)).bind fun t135 => (if t134 = t135 then ((fix_MulT.f (ji6) a1).bind fun t136 => ((fix_MulT.f a1 (ji6)).bind fun t137 => (if t136 = t137 then ((fix_MulDivT.f (ji6) a1 a2).bind fun t138 => ((fix_MulDivT.f a1 (ji6) a2).bind fun t139 => (wigwaglaw01_FixOrders.j0 k ji6 a1 a2 ji7 t133 (t138 == t139)))) else (wigwaglaw01_FixOrders.j0 k ji6 a1 a2 ji7 t133 false)))) else (wigwaglaw01_FixOrders.j0 k ji6 a1 a2 ji7 t133 false))) = some r := H
    have A10 := Aside0.mk A100
    clear A100
    replace H := Option.bind_eq_some_iff.mp H
    obtain ⟨t135, A110, H⟩ := H
    replace H : (if t134 = t135 then ((fix_MulT.f (ji6) a1).bind fun t136 => ((fix_MulT.f a1 (ji6)).bind fun t137 => (if t136 = t137 then ((fix_MulDivT.f (ji6) a1 a2).bind fun t138 => ((fix_MulDivT.f a1 (ji6) a2).bind fun t139 => (wigwaglaw01_FixOrders.j0 k ji6 a1 a2 ji7 t133 (t138 == t139)))) else (wigwaglaw01_FixOrders.j0 k ji6 a1 a2 ji7 t133 false)))) else (wigwaglaw01_FixOrders.j0 k ji6 a1 a2 ji7 t133 false)) = some r := H
    have A11 := Aside0.mk A110
    clear A110
    by_cases c12 : t134 = t135
    · rw [if_pos c12] at H
      have c12b0 : (t134 == t135) = true := beq_iff_eq.mpr c12
      have c12b1 : (t134 != t135) = false := bne_eq_false_iff_eq.mpr c12
      clear c12
      (first | rw [c12b0] | (simp only [i64_w, i32_w]; rw [c12b0]) | skip)
      replace H := Option.bind_eq_some_iff.mp H
      obtain ⟨t136, A130, H⟩ := H
      replace H : ((fix_MulT.f a1 (ji6)).bind fun t137 => (if t136 = t137 then ((fix_MulDivT.f (ji6) a1 a2).bind fun t138 => ((fix_MulDivT.f a1 (ji6) a2).bind fun t139 => (wigwaglaw01_FixOrders.j0 k ji6 a1 a2 ji7 t133 (t138 == t139)))) else (wigwaglaw01_FixOrders.j0 k ji6 a1 a2 ji7 t133 false))) = some r := H
      have A13 := Aside0.mk A130
      clear A130
      replace H := Option.bind_eq_some_iff.mp H
      obtain ⟨t137, A140, H⟩ := H
      replace H : (if t136 = t137 then ((fix_MulDivT.f (ji6) a1 a2).bind fun t138 => ((fix_MulDivT.f a1 (ji6) a2).bind fun t139 => (wigwaglaw01_FixOrders.j0 k ji6 a1 a2 ji7 t133 (t138 == t139)))) else (wigwaglaw01_FixOrders.j0 k ji6 a1 a2 ji7 t133 false)) = some r := H
      have A14 := Aside0.mk A140
      clear A140
      by_cases c15 : t136 = t137
      · rw [if_pos c15] at H
        have c15b0 : (t136 == t137) = true := beq_iff_eq.mpr c15
        have c15b1 : (t136 != t137) = false := bne_eq_false_iff_eq.mpr c15
        clear c15
        replace H := Option.bind_eq_some_iff.mp H
        obtain ⟨t138, A160, H⟩ := H
        replace H : ((fix_MulDivT.f a1 (ji6) a2).bind fun t139 => (wigwaglaw01_FixOrders.j0 k ji6 a1 a2 ji7 t133 (t138 == t139))) = some r := H
        have A16 := Aside0.mk A160
        clear A160
        replace H := Option.bind_eq_some_iff.mp H
        obtain ⟨t139, A170, H⟩ := H
        replace H : (wigwaglaw01_FixOrders.j0 k ji6 a1 a2 ji7 t133 (t138 == t139)) = some r := H
        have A17 := Aside0.mk A170
        clear A170
        have H' := Aside0.mk H
        clear H
        go_wp2_with (first | ((with_reducible refine gate_callee (f := 11) rfl ?_); refine goesL_ (some 23) rfl rfl Try.func11 (by kernel_rfl) rfl #[.int .u64 ji6, .int .u64 a1] rfl (by (try simp only [List.map_toArray, List.map_cons, List.map_nil]); first | done | (simp only [hji6]; rfl) | rfl | (simp only [List.length_drop, List.length_take]; rfl)) ?_; (with_reducible refine (fix_Add.calls ji6 a1 t134 _ A10.out).mono ?_); rintro e w' ⟨rfl, ⟨nd, rfl⟩⟩; refine ⟨_, rfl, ?_⟩) | ((with_reducible refine gate_callee (f := 11) rfl ?_); refine goesL_ (some 26) rfl rfl Try.func11 (by kernel_rfl) rfl #[.int .u64 a1, .int .u64 ji6] rfl (by (try simp only [List.map_toArray, List.map_cons, List.map_nil]); first | done | (simp only [hji6]; rfl) | rfl | (simp only [List.length_drop, List.length_take]; rfl)) ?_; (with_reducible refine (fix_Add.calls a1 ji6 t135 _ A11.out).mono ?_); rintro e w' ⟨rfl, ⟨nd, rfl⟩⟩; refine ⟨_, rfl, ?_⟩) | (go_at_call 15; (with_reducible refine (fix_MulT.calls ji6 a1 t136 _ A13.out).mono ?_); rintro e w' ⟨rfl, ⟨nd, rfl⟩⟩) | (go_at_call 15; (with_reducible refine (fix_MulT.calls a1 ji6 t137 _ A14.out).mono ?_); rintro e w' ⟨rfl, ⟨nd, rfl⟩⟩) | (go_at_call 17; (with_reducible refine (fix_MulDivT.calls ji6 a1 a2 t138 _ A16.out).mono ?_); rintro e w' ⟨rfl, ⟨nd, rfl⟩⟩) | (go_at_call 17; (with_reducible refine (fix_MulDivT.calls a1 ji6 a2 t139 _ A17.out).mono ?_); rintro e w' ⟨rfl, ⟨nd, rfl⟩⟩))
        go_meet
        case rel => exact ⟨_, ((t138 == t139)), (by first | rfl | (simp; done) | (simp [*]; done)), H', ⟨by first | omega | exact Nat.le_refl _⟩, ⟨by repeat (first | (with_reducible first | exact HB.out | apply below_alloc | apply pw_below_drewN | apply below_drew1) | exact HB.out)⟩⟩
      · rw [if_neg c15] at H
        have c15b0 : (t136 == t137) = false := beq_eq_false_iff_ne.mpr c15
        have c15b1 : (t136 != t137) = true := bne_iff_ne.mpr c15
        have H' := Aside0.mk H
        clear H
        go_wp2_with (first | ((with_reducible refine gate_callee (f := 11) rfl ?_); refine goesL_ (some 23) rfl rfl Try.func11 (by kernel_rfl) rfl #[.int .u64 ji6, .int .u64 a1] rfl (by (try simp only [List.map_toArray, List.map_cons, List.map_nil]); first | done | (simp only [hji6]; rfl) | rfl | (simp only [List.length_drop, List.length_take]; rfl)) ?_; (with_reducible refine (fix_Add.calls ji6 a1 t134 _ A10.out).mono ?_); rintro e w' ⟨rfl, ⟨nd, rfl⟩⟩; refine ⟨_, rfl, ?_⟩) | ((with_reducible refine gate_callee (f := 11) rfl ?_); refine goesL_ (some 26) rfl rfl Try.func11 (by kernel_rfl) rfl #[.int .u64 a1, .int .u64 ji6] rfl (by (try simp only [List.map_toArray, List.map_cons, List.map_nil]); first | done | (simp only [hji6]; rfl) | rfl | (simp only [List.length_drop, List.length_take]; rfl)) ?_; (with_reducible refine (fix_Add.calls a1 ji6 t135 _ A11.out).mono ?_); rintro e w' ⟨rfl, ⟨nd, rfl⟩⟩; refine ⟨_, rfl, ?_⟩) | (go_at_call 15; (with_reducible refine (fix_MulT.calls ji6 a1 t136 _ A13.out).mono ?_); rintro e w' ⟨rfl, ⟨nd, rfl⟩⟩) | (go_at_call 15; (with_reducible refine (fix_MulT.calls a1 ji6 t137 _ A14.out).mono ?_); rintro e w' ⟨rfl, ⟨nd, rfl⟩⟩))
        go_meet
        case rel => exact ⟨_, (false), (by first | rfl | (simp; done) | (simp [*]; done)), H', ⟨by first | omega | exact Nat.le_refl _⟩, ⟨by repeat (first | (with_reducible first | exact HB.out | apply below_alloc | apply pw_below_drewN | apply below_drew1) | exact HB.out)⟩⟩
    · rw [if_neg c12] at H
      have c12b0 : (t134 == t135) = false := beq_eq_false_iff_ne.mpr c12
      have c12b1 : (t134 != t135) = true := bne_iff_ne.mpr c12
      (first | rw [c12b0] | (simp only [i64_w, i32_w]; rw [c12b0]) | skip)
      have H' := Aside0.mk H
      clear H
      go_wp2_with (first | ((with_reducible refine gate_callee (f := 11) rfl ?_); refine goesL_ (some 23) rfl rfl Try.func11 (by kernel_rfl) rfl #[.int .u64 ji6, .int .u64 a1] rfl (by (try simp only [List.map_toArray, List.map_cons, List.map_nil]); first | done | (simp only [hji6]; rfl) | rfl | (simp only [List.length_drop, List.length_take]; rfl)) ?_; (with_reducible refine (fix_Add.calls ji6 a1 t134 _ A10.out).mono ?_); rintro e w' ⟨rfl, ⟨nd, rfl⟩⟩; refine ⟨_, rfl, ?_⟩) | ((with_reducible refine gate_callee (f := 11) rfl ?_); refine goesL_ (some 26) rfl rfl Try.func11 (by kernel_rfl) rfl #[.int .u64 a1, .int .u64 ji6] rfl (by (try simp only [List.map_toArray, List.map_cons, List.map_nil]); first | done | (simp only [hji6]; rfl) | rfl | (simp only [List.length_drop, List.length_take]; rfl)) ?_; (with_reducible refine (fix_Add.calls a1 ji6 t135 _ A11.out).mono ?_); rintro e w' ⟨rfl, ⟨nd, rfl⟩⟩; refine ⟨_, rfl, ?_⟩))
      go_meet
      case rel => exact ⟨_, (false), (by first | rfl | (simp; done) | (simp [*]; done)), H', ⟨by first | omega | exact Nat.le_refl _⟩, ⟨by repeat (first | (with_reducible first | exact HB.out | apply below_alloc | apply pw_below_drewN | apply below_drew1) | exact HB.out)⟩⟩
  case rest =>
    clear HC8
    try clear c1
    try clear p2
    try clear c4
    try clear c10
    try clear c11
    try clear c12
    try clear c12b0
    try clear c12b1
    try clear c15
    try clear c15b0
    try clear c15b1
    obtain ⟨kq, x11_7, rfl, HA, HJ7, HB⟩ := hcut
    cases kq with
    | zero => exact absurd HA.out (by simp [wigwaglaw01_FixOrders.j0])
    | succ kj7 =>
      have H := HA.out
      clear HA
      simp only [wigwaglaw01_FixOrders.j0] at H
      have HC18 := Aside0.mk H
      clear H
      go_upto_region 6 with (fail)
      go_cut [12] (fun v12 wc => ∃ (kq : Nat) (x12_17 : Bool), v12 = .bool x12_17 ∧ Aside0 (wigwaglaw01_FixOrders.j1 kq ji6 a1 a2 ji7 t133 x11_7 x12_17 = some r) ∧ Aside0 (kq ≤ kj7) ∧ Aside0 (Below w.heap.size w wc))
      case first =>
        have H := HC18.out
        clear HC18
        replace H := Option.bind_eq_some_iff.mp H
        obtain ⟨t140, A190, H⟩ := H
        replace H : ((fix_Add.f ji7 a1).bind fun t141 => (if t140 ≤ t141 then ((fix_SubT.f ji6 a1).bind fun t142 => ((fix_SubT.f ji7 a1).bind fun t143 => (if t142 ≤ t143 then ((fix_MulT.f ji6 a1).bind fun t144 => ((fix_MulT.f ji7 a1).bind fun t145 => (wigwaglaw01_FixOrders.j1 kj7 ji6 a1 a2 ji7 t133 x11_7 (decide (t144 ≤ t145))))) else (wigwaglaw01_FixOrders.j1 kj7 ji6 a1 a2 ji7 t133 x11_7 false)))) else (wigwaglaw01_FixOrders.j1 kj7 ji6 a1 a2 ji7 t133 x11_7 false))) = some r := H
        have A19 := Aside0.mk A190
        clear A190
        replace H := Option.bind_eq_some_iff.mp H
        obtain ⟨t141, A200, H⟩ := H
        replace H : (if t140 ≤ t141 then ((fix_SubT.f ji6 a1).bind fun t142 => ((fix_SubT.f ji7 a1).bind fun t143 => (if t142 ≤ t143 then ((fix_MulT.f ji6 a1).bind fun t144 => ((fix_MulT.f ji7 a1).bind fun t145 => (wigwaglaw01_FixOrders.j1 kj7 ji6 a1 a2 ji7 t133 x11_7 (decide (t144 ≤ t145))))) else (wigwaglaw01_FixOrders.j1 kj7 ji6 a1 a2 ji7 t133 x11_7 false)))) else (wigwaglaw01_FixOrders.j1 kj7 ji6 a1 a2 ji7 t133 x11_7 false)) = some r := H
        have A20 := Aside0.mk A200
        clear A200
        by_cases c21 : t140 ≤ t141
        · rw [if_pos c21] at H
          have c21b0 : decide (t140 ≤ t141) = true := decide_eq_true c21
          clear c21
          (first | rw [c21b0] | (simp only [i64_w, i32_w]; rw [c21b0]) | skip)
          replace H := Option.bind_eq_some_iff.mp H
          obtain ⟨t142, A220, H⟩ := H
          replace H : ((fix_SubT.f ji7 a1).bind fun t143 => (if t142 ≤ t143 then ((fix_MulT.f ji6 a1).bind fun t144 => ((fix_MulT.f ji7 a1).bind fun t145 => (wigwaglaw01_FixOrders.j1 kj7 ji6 a1 a2 ji7 t133 x11_7 (decide (t144 ≤ t145))))) else (wigwaglaw01_FixOrders.j1 kj7 ji6 a1 a2 ji7 t133 x11_7 false))) = some r := H
          have A22 := Aside0.mk A220
          clear A220
          replace H := Option.bind_eq_some_iff.mp H
          obtain ⟨t143, A230, H⟩ := H
          replace H : (if t142 ≤ t143 then ((fix_MulT.f ji6 a1).bind fun t144 => ((fix_MulT.f ji7 a1).bind fun t145 => (wigwaglaw01_FixOrders.j1 kj7 ji6 a1 a2 ji7 t133 x11_7 (decide (t144 ≤ t145))))) else (wigwaglaw01_FixOrders.j1 kj7 ji6 a1 a2 ji7 t133 x11_7 false)) = some r := H
          have A23 := Aside0.mk A230
          clear A230
          by_cases c24 : t142 ≤ t143
          · rw [if_pos c24] at H
            have c24b0 : decide (t142 ≤ t143) = true := decide_eq_true c24
            clear c24
            replace H := Option.bind_eq_some_iff.mp H
            obtain ⟨t144, A250, H⟩ := H
            replace H : ((fix_MulT.f ji7 a1).bind fun t145 => (wigwaglaw01_FixOrders.j1 kj7 ji6 a1 a2 ji7 t133 x11_7 (decide (t144 ≤ t145)))) = some r := H
            have A25 := Aside0.mk A250
            clear A250
            replace H := Option.bind_eq_some_iff.mp H
            obtain ⟨t145, A260, H⟩ := H
            replace H : (wigwaglaw01_FixOrders.j1 kj7 ji6 a1 a2 ji7 t133 x11_7 (decide (t144 ≤ t145))) = some r := H
            have A26 := Aside0.mk A260
            clear A260
            have H' := Aside0.mk H
            clear H
            go_wp2_with (first | ((with_reducible refine gate_callee (f := 11) rfl ?_); refine goesL_ (some 50) rfl rfl Try.func11 (by kernel_rfl) rfl #[.int .u64 ji6, .int .u64 a1] rfl (by (try simp only [List.map_toArray, List.map_cons, List.map_nil]); first | done | (simp only [hji6]; rfl) | rfl | (simp only [List.length_drop, List.length_take]; rfl)) ?_; (with_reducible refine (fix_Add.calls ji6 a1 t140 _ A19.out).mono ?_); rintro e w' ⟨rfl, ⟨nd, rfl⟩⟩; refine ⟨_, rfl, ?_⟩) | ((with_reducible refine gate_callee (f := 11) rfl ?_); refine goesL_ (some 53) rfl rfl Try.func11 (by kernel_rfl) rfl #[.int .u64 ji7, .int .u64 a1] rfl (by (try simp only [List.map_toArray, List.map_cons, List.map_nil]); first | done | (simp only [hji7]; rfl) | rfl | (simp only [List.length_drop, List.length_take]; rfl)) ?_; (with_reducible refine (fix_Add.calls ji7 a1 t141 _ A20.out).mono ?_); rintro e w' ⟨rfl, ⟨nd, rfl⟩⟩; refine ⟨_, rfl, ?_⟩) | (go_at_call 13; (with_reducible refine (fix_SubT.calls ji6 a1 t142 _ A22.out).mono ?_); rintro e w27 ⟨rfl, hb⟩; have n0_ := Aside0.mk (below_step (by repeat (first | (with_reducible first | exact HB.out | apply below_alloc | apply pw_below_drewN | apply below_drew1) | exact HB.out)) hb); clear HB; have HB := n0_; clear n0_; (try clear hb); (try clear hb2); (try clear hk); (try clear hi)) | (go_at_call 13; (with_reducible refine (fix_SubT.calls ji7 a1 t143 _ A23.out).mono ?_); rintro e w28 ⟨rfl, hb⟩; have n0_ := Aside0.mk (below_step (by repeat (first | (with_reducible first | exact HB.out | apply below_alloc | apply pw_below_drewN | apply below_drew1) | exact HB.out)) hb); clear HB; have HB := n0_; clear n0_; (try clear hb); (try clear hb2); (try clear hk); (try clear hi)) | (go_at_call 15; (with_reducible refine (fix_MulT.calls ji6 a1 t144 _ A25.out).mono ?_); rintro e w' ⟨rfl, ⟨nd, rfl⟩⟩) | (go_at_call 15; (with_reducible refine (fix_MulT.calls ji7 a1 t145 _ A26.out).mono ?_); rintro e w' ⟨rfl, ⟨nd, rfl⟩⟩))
            go_meet
            case rel => exact ⟨_, (decide (t144 ≤ t145)), (by first | rfl | (simp; done) | (simp [*]; done)), H', ⟨by have := HJ7.out; first | omega | exact Nat.le_refl _⟩, ⟨by repeat (first | (with_reducible first | exact HB.out | apply below_alloc | apply pw_below_drewN | apply below_drew1) | exact HB.out)⟩⟩
          · rw [if_neg c24] at H
            have c24b0 : decide (t142 ≤ t143) = false := decide_eq_false c24
            clear c24
            have H' := Aside0.mk H
            clear H
            go_wp2_with (first | ((with_reducible refine gate_callee (f := 11) rfl ?_); refine goesL_ (some 50) rfl rfl Try.func11 (by kernel_rfl) rfl #[.int .u64 ji6, .int .u64 a1] rfl (by (try simp only [List.map_toArray, List.map_cons, List.map_nil]); first | done | (simp only [hji6]; rfl) | rfl | (simp only [List.length_drop, List.length_take]; rfl)) ?_; (with_reducible refine (fix_Add.calls ji6 a1 t140 _ A19.out).mono ?_); rintro e w' ⟨rfl, ⟨nd, rfl⟩⟩; refine ⟨_, rfl, ?_⟩) | ((with_reducible refine gate_callee (f := 11) rfl ?_); refine goesL_ (some 53) rfl rfl Try.func11 (by kernel_rfl) rfl #[.int .u64 ji7, .int .u64 a1] rfl (by (try simp only [List.map_toArray, List.map_cons, List.map_nil]); first | done | (simp only [hji7]; rfl) | rfl | (simp only [List.length_drop, List.length_take]; rfl)) ?_; (with_reducible refine (fix_Add.calls ji7 a1 t141 _ A20.out).mono ?_); rintro e w' ⟨rfl, ⟨nd, rfl⟩⟩; refine ⟨_, rfl, ?_⟩) | (go_at_call 13; (with_reducible refine (fix_SubT.calls ji6 a1 t142 _ A22.out).mono ?_); rintro e w29 ⟨rfl, hb⟩; have n0_ := Aside0.mk (below_step (by repeat (first | (with_reducible first | exact HB.out | apply below_alloc | apply pw_below_drewN | apply below_drew1) | exact HB.out)) hb); clear HB; have HB := n0_; clear n0_; (try clear hb); (try clear hb2); (try clear hk); (try clear hi)) | (go_at_call 13; (with_reducible refine (fix_SubT.calls ji7 a1 t143 _ A23.out).mono ?_); rintro e w30 ⟨rfl, hb⟩; have n0_ := Aside0.mk (below_step (by repeat (first | (with_reducible first | exact HB.out | apply below_alloc | apply pw_below_drewN | apply below_drew1) | exact HB.out)) hb); clear HB; have HB := n0_; clear n0_; (try clear hb); (try clear hb2); (try clear hk); (try clear hi)))
            go_meet
            case rel => exact ⟨_, (false), (by first | rfl | (simp; done) | (simp [*]; done)), H', ⟨by have := HJ7.out; first | omega | exact Nat.le_refl _⟩, ⟨by repeat (first | (with_reducible first | exact HB.out | apply below_alloc | apply pw_below_drewN | apply below_drew1) | exact HB.out)⟩⟩
        · rw [if_neg c21] at H
          have c21b0 : decide (t140 ≤ t141) = false := decide_eq_false c21
          clear c21
          (first | rw [c21b0] | (simp only [i64_w, i32_w]; rw [c21b0]) | skip)
          have H' := Aside0.mk H
          clear H
          go_wp2_with (first | ((with_reducible refine gate_callee (f := 11) rfl ?_); refine goesL_ (some 50) rfl rfl Try.func11 (by kernel_rfl) rfl #[.int .u64 ji6, .int .u64 a1] rfl (by (try simp only [List.map_toArray, List.map_cons, List.map_nil]); first | done | (simp only [hji6]; rfl) | rfl | (simp only [List.length_drop, List.length_take]; rfl)) ?_; (with_reducible refine (fix_Add.calls ji6 a1 t140 _ A19.out).mono ?_); rintro e w' ⟨rfl, ⟨nd, rfl⟩⟩; refine ⟨_, rfl, ?_⟩) | ((with_reducible refine gate_callee (f := 11) rfl ?_); refine goesL_ (some 53) rfl rfl Try.func11 (by kernel_rfl) rfl #[.int .u64 ji7, .int .u64 a1] rfl (by (try simp only [List.map_toArray, List.map_cons, List.map_nil]); first | done | (simp only [hji7]; rfl) | rfl | (simp only [List.length_drop, List.length_take]; rfl)) ?_; (with_reducible refine (fix_Add.calls ji7 a1 t141 _ A20.out).mono ?_); rintro e w' ⟨rfl, ⟨nd, rfl⟩⟩; refine ⟨_, rfl, ?_⟩))
          go_meet
          case rel => exact ⟨_, (false), (by first | rfl | (simp; done) | (simp [*]; done)), H', ⟨by have := HJ7.out; first | omega | exact Nat.le_refl _⟩, ⟨by repeat (first | (with_reducible first | exact HB.out | apply below_alloc | apply pw_below_drewN | apply below_drew1) | exact HB.out)⟩⟩
      case rest =>
        clear HC18
        try clear c1
        try clear c2
        try clear p2
        try clear c4
        try clear c10
        try clear c11
        try clear c12
        try clear c12b0
        try clear c12b1
        try clear c15
        try clear c15b0
        try clear c15b1
        try clear c21
        try clear c21b0
        try clear c24
        try clear c24b0
        try clear p2
        obtain ⟨kq, x12_17, rfl, HA, HJ17, HB⟩ := hcut
        cases kq with
        | zero => exact absurd HA.out (by simp [wigwaglaw01_FixOrders.j1])
        | succ kj17 =>
          have H := HA.out
          clear HA
          simp only [wigwaglaw01_FixOrders.j1] at H
          by_cases c31 : t133 = true
          · subst c31
            have H1 : (if x11_7 = true then (if x12_17 = true then ((fix_MulDivT.f ji6 a1 a2).bind fun t146 => ((fix_MulDivT.f ji7 a1 a2).bind fun t147 => (if t146 ≤ t147 then ((fix_Gain.f ji6 a1).bind fun t148 => ((fix_Gain.f ji7 a1).bind fun t149 => (if t148 ≤ t149 then ((fix_Cbrt.f ji6).bind fun t150 => ((fix_Cbrt.f ji7).bind fun t151 => (some (decide (t150 ≤ t151))))) else (some false)))) else (some false)))) else (some false)) else (some false)) = some r := by rw [if_pos rfl] at H; exact H
            clear H
            have H := H1
            clear H1
            by_cases c32 : x11_7 = true
            · subst c32
              have H1 : (if x12_17 = true then ((fix_MulDivT.f ji6 a1 a2).bind fun t146 => ((fix_MulDivT.f ji7 a1 a2).bind fun t147 => (if t146 ≤ t147 then ((fix_Gain.f ji6 a1).bind fun t148 => ((fix_Gain.f ji7 a1).bind fun t149 => (if t148 ≤ t149 then ((fix_Cbrt.f ji6).bind fun t150 => ((fix_Cbrt.f ji7).bind fun t151 => (some (decide (t150 ≤ t151))))) else (some false)))) else (some false)))) else (some false)) = some r := by rw [if_pos rfl] at H; exact H
              clear H
              have H := H1
              clear H1
              by_cases c33 : x12_17 = true
              · subst c33
                have H1 : ((fix_MulDivT.f ji6 a1 a2).bind fun t146 => ((fix_MulDivT.f ji7 a1 a2).bind fun t147 => (if t146 ≤ t147 then ((fix_Gain.f ji6 a1).bind fun t148 => ((fix_Gain.f ji7 a1).bind fun t149 => (if t148 ≤ t149 then ((fix_Cbrt.f ji6).bind fun t150 => ((fix_Cbrt.f ji7).bind fun t151 => (some (decide (t150 ≤ t151))))) else (some false)))) else (some false)))) = some r := by rw [if_pos rfl] at H; exact H
                clear H
                have H := H1
                clear H1
                replace H := Option.bind_eq_some_iff.mp H
                obtain ⟨t146, A340, H⟩ := H
                replace H : ((fix_MulDivT.f ji7 a1 a2).bind fun t147 => (if t146 ≤ t147 then ((fix_Gain.f ji6 a1).bind fun t148 => ((fix_Gain.f ji7 a1).bind fun t149 => (if t148 ≤ t149 then ((fix_Cbrt.f ji6).bind fun t150 => ((fix_Cbrt.f ji7).bind fun t151 => (some (decide (t150 ≤ t151))))) else (some false)))) else (some false))) = some r := H
                have A34 := Aside0.mk A340
                clear A340
                replace H := Option.bind_eq_some_iff.mp H
                obtain ⟨t147, A350, H⟩ := H
                replace H : (if t146 ≤ t147 then ((fix_Gain.f ji6 a1).bind fun t148 => ((fix_Gain.f ji7 a1).bind fun t149 => (if t148 ≤ t149 then ((fix_Cbrt.f ji6).bind fun t150 => ((fix_Cbrt.f ji7).bind fun t151 => (some (decide (t150 ≤ t151))))) else (some false)))) else (some false)) = some r := H
                have A35 := Aside0.mk A350
                clear A350
                by_cases c36 : t146 ≤ t147
                · rw [if_pos c36] at H
                  have c36b0 : decide (t146 ≤ t147) = true := decide_eq_true c36
                  clear c36
                  replace H := Option.bind_eq_some_iff.mp H
                  obtain ⟨t148, A370, H⟩ := H
                  replace H : ((fix_Gain.f ji7 a1).bind fun t149 => (if t148 ≤ t149 then ((fix_Cbrt.f ji6).bind fun t150 => ((fix_Cbrt.f ji7).bind fun t151 => (some (decide (t150 ≤ t151))))) else (some false))) = some r := H
                  have A37 := Aside0.mk A370
                  clear A370
                  replace H := Option.bind_eq_some_iff.mp H
                  obtain ⟨t149, A380, H⟩ := H
                  replace H : (if t148 ≤ t149 then ((fix_Cbrt.f ji6).bind fun t150 => ((fix_Cbrt.f ji7).bind fun t151 => (some (decide (t150 ≤ t151))))) else (some false)) = some r := H
                  have A38 := Aside0.mk A380
                  clear A380
                  by_cases c39 : t148 ≤ t149
                  · rw [if_pos c39] at H
                    have c39b0 : decide (t148 ≤ t149) = true := decide_eq_true c39
                    clear c39
                    replace H := Option.bind_eq_some_iff.mp H
                    obtain ⟨t150, A400, H⟩ := H
                    replace H : ((fix_Cbrt.f ji7).bind fun t151 => (some (decide (t150 ≤ t151)))) = some r := H
                    have A40 := Aside0.mk A400
                    clear A400
                    replace H := Option.bind_eq_some_iff.mp H
                    obtain ⟨t151, A410, H⟩ := H
                    replace H : (some (decide (t150 ≤ t151))) = some r := H
                    have A41 := Aside0.mk A410
                    clear A410
                    obtain rfl := Option.some.inj H
                    go_wp2_with (first | (go_at_call 17; (with_reducible refine (fix_MulDivT.calls ji6 a1 a2 t146 _ A34.out).mono ?_); rintro e w' ⟨rfl, ⟨nd, rfl⟩⟩) | (go_at_call 17; (with_reducible refine (fix_MulDivT.calls ji7 a1 a2 t147 _ A35.out).mono ?_); rintro e w' ⟨rfl, ⟨nd, rfl⟩⟩) | (go_at_call 19; (with_reducible refine (fix_Gain.calls ji6 a1 t148 _ A37.out).mono ?_); rintro e w' ⟨rfl, ⟨nd, rfl⟩⟩) | (go_at_call 19; (with_reducible refine (fix_Gain.calls ji7 a1 t149 _ A38.out).mono ?_); rintro e w' ⟨rfl, ⟨nd, rfl⟩⟩) | (go_at_call 21; (with_reducible refine (fix_Cbrt.calls ji6 t150 _ A40.out).mono ?_); rintro e w42 ⟨rfl, hb⟩; have n0_ := Aside0.mk (below_step (by repeat (first | (with_reducible first | exact HB.out | apply below_alloc | apply pw_below_drewN | apply below_drew1) | exact HB.out)) hb); clear HB; have HB := n0_; clear n0_; (try clear hb); (try clear hb2); (try clear hk); (try clear hi)) | (go_at_call 21; (with_reducible refine (fix_Cbrt.calls ji7 t151 _ A41.out).mono ?_); rintro e w43 ⟨rfl, hb⟩; have n0_ := Aside0.mk (below_step (by repeat (first | (with_reducible first | exact HB.out | apply below_alloc | apply pw_below_drewN | apply below_drew1) | exact HB.out)) hb); clear HB; have HB := n0_; clear n0_; (try clear hb); (try clear hb2); (try clear hk); (try clear hi)))
                    go_ret
                    exact ⟨by first | rfl | (simp [errW_none, errW_some] <;> rfl) | (simp only [← hji6, ← hji7]; first | rfl | (simp [errW_none, errW_some] <;> rfl)) | (simp [*, errW_none, errW_some] <;> rfl), by repeat (first | (with_reducible first | exact HB.out | apply below_alloc | apply pw_below_drewN | apply below_drew1) | exact HB.out)⟩
                  · rw [if_neg c39] at H
                    have c39b0 : decide (t148 ≤ t149) = false := decide_eq_false c39
                    clear c39
                    obtain rfl := Option.some.inj H
                    go_wp2_with (first | (go_at_call 17; (with_reducible refine (fix_MulDivT.calls ji6 a1 a2 t146 _ A34.out).mono ?_); rintro e w' ⟨rfl, ⟨nd, rfl⟩⟩) | (go_at_call 17; (with_reducible refine (fix_MulDivT.calls ji7 a1 a2 t147 _ A35.out).mono ?_); rintro e w' ⟨rfl, ⟨nd, rfl⟩⟩) | (go_at_call 19; (with_reducible refine (fix_Gain.calls ji6 a1 t148 _ A37.out).mono ?_); rintro e w' ⟨rfl, ⟨nd, rfl⟩⟩) | (go_at_call 19; (with_reducible refine (fix_Gain.calls ji7 a1 t149 _ A38.out).mono ?_); rintro e w' ⟨rfl, ⟨nd, rfl⟩⟩))
                    go_ret
                    exact ⟨by first | rfl | (simp [errW_none, errW_some] <;> rfl) | (simp only [← hji6, ← hji7]; first | rfl | (simp [errW_none, errW_some] <;> rfl)) | (simp [*, errW_none, errW_some] <;> rfl), by repeat (first | (with_reducible first | exact HB.out | apply below_alloc | apply pw_below_drewN | apply below_drew1) | exact HB.out)⟩
                · rw [if_neg c36] at H
                  have c36b0 : decide (t146 ≤ t147) = false := decide_eq_false c36
                  clear c36
                  obtain rfl := Option.some.inj H
                  go_wp2_with (first | (go_at_call 17; (with_reducible refine (fix_MulDivT.calls ji6 a1 a2 t146 _ A34.out).mono ?_); rintro e w' ⟨rfl, ⟨nd, rfl⟩⟩) | (go_at_call 17; (with_reducible refine (fix_MulDivT.calls ji7 a1 a2 t147 _ A35.out).mono ?_); rintro e w' ⟨rfl, ⟨nd, rfl⟩⟩))
                  go_ret
                  exact ⟨by first | rfl | (simp [errW_none, errW_some] <;> rfl) | (simp only [← hji6, ← hji7]; first | rfl | (simp [errW_none, errW_some] <;> rfl)) | (simp [*, errW_none, errW_some] <;> rfl), by repeat (first | (with_reducible first | exact HB.out | apply below_alloc | apply pw_below_drewN | apply below_drew1) | exact HB.out)⟩
              · replace c33 := Bool.eq_false_iff.mpr c33
                subst c33
                have H1 : (some false) = some r := by rw [if_neg (show ¬ (false = true) by decide)] at H; exact H
                clear H
                have H := H1
                clear H1
                obtain rfl := Option.some.inj H
                go_wp2
                go_ret
                exact ⟨by first | rfl | (simp [errW_none, errW_some] <;> rfl) | (simp only [← hji6, ← hji7]; first | rfl | (simp [errW_none, errW_some] <;> rfl)) | (simp [*, errW_none, errW_some] <;> rfl), by repeat (first | (with_reducible first | exact HB.out | apply below_alloc | apply pw_below_drewN | apply below_drew1) | exact HB.out)⟩
            · replace c32 := Bool.eq_false_iff.mpr c32
              subst c32
              have H1 : (some false) = some r := by rw [if_neg (show ¬ (false = true) by decide)] at H; exact H
              clear H
              have H := H1
              clear H1
              obtain rfl := Option.some.inj H
              go_wp2
              go_ret
              exact ⟨by first | rfl | (simp [errW_none, errW_some] <;> rfl) | (simp only [← hji6, ← hji7]; first | rfl | (simp [errW_none, errW_some] <;> rfl)) | (simp [*, errW_none, errW_some] <;> rfl), by repeat (first | (with_reducible first | exact HB.out | apply below_alloc | apply pw_below_drewN | apply below_drew1) | exact HB.out)⟩
          · replace c31 := Bool.eq_false_iff.mpr c31
            subst c31
            have H1 : (some false) = some r := by rw [if_neg (show ¬ (false = true) by decide)] at H; exact H
            clear H
            have H := H1
            clear H1
            obtain rfl := Option.some.inj H
            go_wp2
            go_ret
            exact ⟨by first | rfl | (simp [errW_none, errW_some] <;> rfl) | (simp only [← hji6, ← hji7]; first | rfl | (simp [errW_none, errW_some] <;> rfl)) | (simp [*, errW_none, errW_some] <;> rfl), by repeat (first | (with_reducible first | exact HB.out | apply below_alloc | apply pw_below_drewN | apply below_drew1) | exact HB.out)⟩

/-- THE ONE PURE STATEMENT of wigwaglaw01_FixOrders: yours. -/
def wigwaglaw01_FixOrders.Pure : Prop := ∀ (a0 : Int) (a1 : Int) (a2 : Int) (a3 : Int), (Lit.int .u64 a0).wf = true → (Lit.int .u64 a1).wf = true → (Lit.int .u64 a2).wf = true → (Lit.int .u64 a3).wf = true → ∃ k, wigwaglaw01_FixOrders.f k a0 a1 a2 a3 = some true
theorem wigwaglaw01_FixOrders.walk (P : wigwaglaw01_FixOrders.Pure) (a0 : Int) (a1 : Int) (a2 : Int) (a3 : Int) (w : World) (w0 : (Lit.int .u64 a0).wf = true) (w1 : (Lit.int .u64 a1).wf = true) (w2 : (Lit.int .u64 a2).wf = true) (w3 : (Lit.int .u64 a3).wf = true) :
    Calls Try.prog 4 #[.int .u64 a0, .int .u64 a1, .int .u64 a2, .int .u64 a3] w fun e w' => e = .returned (.bool true) ∧ Below w.heap.size w w' := by
  obtain ⟨k, h⟩ := P a0 a1 a2 a3 w0 w1 w2 w3
  refine (wigwaglaw01_FixOrders.calls k a0 a1 a2 a3 true w h).mono ?_
  rintro e w' ⟨rfl, hd⟩
  exact ⟨rfl, hd⟩

/-! ### wigwaglaw01_FixRoots: function 5 -/
def wigwaglaw01_FixRoots.f (a0 : Int) : Option (Bool) := (wigwaglaw01_awake.f).bind fun t152 => ((fix_Cbrt.f a0).bind fun t153 => (if t153 > 2642245 then (some false) else (if t153 = 2642245 then (if t152 = true then (if (IntKind.u64.wrap ((IntKind.u64.wrap (t153 * t153)) * t153)) ≤ a0 then (some true) else (some false)) else (some false)) else (if t152 = true then (if (IntKind.u64.wrap ((IntKind.u64.wrap (t153 * t153)) * t153)) ≤ a0 then (some (decide ((IntKind.u64.wrap ((IntKind.u64.wrap ((IntKind.u64.wrap (t153 + 1)) * (IntKind.u64.wrap (t153 + 1)))) * (IntKind.u64.wrap (t153 + 1)))) > a0))) else (some false)) else (some false)))))
set_option maxHeartbeats 8000000 in
set_option maxRecDepth 100000 in
theorem wigwaglaw01_FixRoots.calls (a0 : Int) (r : Bool) (w : World) (h : wigwaglaw01_FixRoots.f a0 = some r) :
    Calls Try.prog 5 #[.int .u64 a0] w fun e w' => e = .returned (.bool r) ∧ Below w.heap.size w w' := by
  have HB := Aside0.mk (Below.refl w.heap.size w)
  have H : ((wigwaglaw01_awake.f).bind fun t152 => ((fix_Cbrt.f a0).bind fun t153 => (if t153 > 2642245 then (some false) else (if t153 = 2642245 then (if t152 = true then (if (IntKind.u64.wrap ((IntKind.u64.wrap (t153 * t153)) * t153)) ≤ a0 then (some true) else (some false)) else (some false)) else (if t152 = true then (if (IntKind.u64.wrap ((IntKind.u64.wrap (t153 * t153)) * t153)) ≤ a0 then (some (decide ((IntKind.u64.wrap ((IntKind.u64.wrap ((IntKind.u64.wrap (t153 + 1)) * (IntKind.u64.wrap (t153 + 1)))) * (IntKind.u64.wrap (t153 + 1)))) > a0))) else (some false)) else (some false)))))) = some r := h
  clear h
  replace H := Option.bind_eq_some_iff.mp H
  obtain ⟨t152, A20, H⟩ := H
  replace H : ((fix_Cbrt.f a0).bind fun t153 => (if t153 > 2642245 then (some false) else (if t153 = 2642245 then (if t152 = true then (if (IntKind.u64.wrap ((IntKind.u64.wrap (t153 * t153)) * t153)) ≤ a0 then (some true) else (some false)) else (some false)) else (if t152 = true then (if (IntKind.u64.wrap ((IntKind.u64.wrap (t153 * t153)) * t153)) ≤ a0 then (some (decide ((IntKind.u64.wrap ((IntKind.u64.wrap ((IntKind.u64.wrap (t153 + 1)) * (IntKind.u64.wrap (t153 + 1)))) * (IntKind.u64.wrap (t153 + 1)))) > a0))) else (some false)) else (some false))))) = some r := H
  have A2 := Aside0.mk A20
  clear A20
  replace H := Option.bind_eq_some_iff.mp H
  obtain ⟨t153, A30, H⟩ := H
  replace H : (if t153 > 2642245 then (some false) else (if t153 = 2642245 then (if t152 = true then (if (IntKind.u64.wrap ((IntKind.u64.wrap (t153 * t153)) * t153)) ≤ a0 then (some true) else (some false)) else (some false)) else (if t152 = true then (if (IntKind.u64.wrap ((IntKind.u64.wrap (t153 * t153)) * t153)) ≤ a0 then (some (decide ((IntKind.u64.wrap ((IntKind.u64.wrap ((IntKind.u64.wrap (t153 + 1)) * (IntKind.u64.wrap (t153 + 1)))) * (IntKind.u64.wrap (t153 + 1)))) > a0))) else (some false)) else (some false)))) = some r := H
  have A3 := Aside0.mk A30
  clear A30
  by_cases c4 : t153 > 2642245
  · rw [if_pos c4] at H
    have c4b0 : decide (2642245 < t153) = true := decide_eq_true c4
    clear c4
    obtain rfl := Option.some.inj H
    go_enter Try.func5, Try.ntmps5
    go_wp2_with (first | ((with_reducible refine gate_callee (f := 10) rfl ?_); refine goesL_ (some 7) rfl rfl Try.func10 (by kernel_rfl) rfl #[] rfl (by (try simp only [List.map_toArray, List.map_cons, List.map_nil]); first | done | rfl | (simp only [List.length_drop, List.length_take]; rfl)) ?_; (with_reducible refine (wigwaglaw01_awake.calls  t152 _ A2.out).mono ?_); rintro e w5 ⟨rfl, hb⟩; refine ⟨_, rfl, ?_⟩; have n0_ := Aside0.mk (below_step (by repeat (first | (with_reducible first | exact HB.out | apply below_alloc | apply pw_below_drewN | apply below_drew1) | exact HB.out)) hb); clear HB; have HB := n0_; clear n0_; (try clear hb); (try clear hb2); (try clear hk); (try clear hi)) | ((with_reducible refine gate_callee (f := 21) rfl ?_); refine goesL_ (some 9) rfl rfl Try.func21 (by kernel_rfl) rfl #[.int .u64 a0] rfl (by (try simp only [List.map_toArray, List.map_cons, List.map_nil]); first | done | rfl | (simp only [List.length_drop, List.length_take]; rfl)) ?_; (with_reducible refine (fix_Cbrt.calls a0 t153 _ A3.out).mono ?_); rintro e w6 ⟨rfl, hb⟩; refine ⟨_, rfl, ?_⟩; have n0_ := Aside0.mk (below_step (by repeat (first | (with_reducible first | exact HB.out | apply below_alloc | apply pw_below_drewN | apply below_drew1) | exact HB.out)) hb); clear HB; have HB := n0_; clear n0_; (try clear hb); (try clear hb2); (try clear hk); (try clear hi)))
    go_ret
    exact ⟨by first | rfl | (simp [errW_none, errW_some] <;> rfl) | (simp [*, errW_none, errW_some] <;> rfl), by repeat (first | (with_reducible first | exact HB.out | apply below_alloc | apply pw_below_drewN | apply below_drew1) | exact HB.out)⟩
  · rw [if_neg c4] at H
    have c4b0 : decide (2642245 < t153) = false := decide_eq_false c4
    clear c4
    by_cases c7 : t153 = 2642245
    · rw [if_pos c7] at H
      have c7b0 : (t153 == 2642245) = true := beq_iff_eq.mpr c7
      have c7b1 : (t153 != 2642245) = false := bne_eq_false_iff_eq.mpr c7
      clear c7
      by_cases c8 : t152 = true
      · subst c8
        have H1 : (if (IntKind.u64.wrap ((IntKind.u64.wrap (t153 * t153)) * t153)) ≤ a0 then (some true) else (some false)) = some r := by rw [if_pos rfl] at H; exact H
        clear H
        have H := H1
        clear H1
        by_cases c9 : (IntKind.u64.wrap ((IntKind.u64.wrap (t153 * t153)) * t153)) ≤ a0
        · rw [if_pos c9] at H
          have c9b0 : decide ((IntKind.u64.wrap ((IntKind.u64.wrap (t153 * t153)) * t153)) ≤ a0) = true := decide_eq_true c9
          clear c9
          obtain rfl := Option.some.inj H
          go_enter Try.func5, Try.ntmps5
          go_wp2_with (first | ((with_reducible refine gate_callee (f := 10) rfl ?_); refine goesL_ (some 7) rfl rfl Try.func10 (by kernel_rfl) rfl #[] rfl (by (try simp only [List.map_toArray, List.map_cons, List.map_nil]); first | done | rfl | (simp only [List.length_drop, List.length_take]; rfl)) ?_; (with_reducible refine (wigwaglaw01_awake.calls  true _ A2.out).mono ?_); rintro e w10 ⟨rfl, hb⟩; refine ⟨_, rfl, ?_⟩; have n0_ := Aside0.mk (below_step (by repeat (first | (with_reducible first | exact HB.out | apply below_alloc | apply pw_below_drewN | apply below_drew1) | exact HB.out)) hb); clear HB; have HB := n0_; clear n0_; (try clear hb); (try clear hb2); (try clear hk); (try clear hi)) | ((with_reducible refine gate_callee (f := 21) rfl ?_); refine goesL_ (some 9) rfl rfl Try.func21 (by kernel_rfl) rfl #[.int .u64 a0] rfl (by (try simp only [List.map_toArray, List.map_cons, List.map_nil]); first | done | rfl | (simp only [List.length_drop, List.length_take]; rfl)) ?_; (with_reducible refine (fix_Cbrt.calls a0 t153 _ A3.out).mono ?_); rintro e w11 ⟨rfl, hb⟩; refine ⟨_, rfl, ?_⟩; have n0_ := Aside0.mk (below_step (by repeat (first | (with_reducible first | exact HB.out | apply below_alloc | apply pw_below_drewN | apply below_drew1) | exact HB.out)) hb); clear HB; have HB := n0_; clear n0_; (try clear hb); (try clear hb2); (try clear hk); (try clear hi)))
          go_ret
          exact ⟨by first | rfl | (simp [errW_none, errW_some] <;> rfl) | (simp [*, errW_none, errW_some] <;> rfl), by repeat (first | (with_reducible first | exact HB.out | apply below_alloc | apply pw_below_drewN | apply below_drew1) | exact HB.out)⟩
        · rw [if_neg c9] at H
          have c9b0 : decide ((IntKind.u64.wrap ((IntKind.u64.wrap (t153 * t153)) * t153)) ≤ a0) = false := decide_eq_false c9
          clear c9
          obtain rfl := Option.some.inj H
          go_enter Try.func5, Try.ntmps5
          go_wp2_with (first | ((with_reducible refine gate_callee (f := 10) rfl ?_); refine goesL_ (some 7) rfl rfl Try.func10 (by kernel_rfl) rfl #[] rfl (by (try simp only [List.map_toArray, List.map_cons, List.map_nil]); first | done | rfl | (simp only [List.length_drop, List.length_take]; rfl)) ?_; (with_reducible refine (wigwaglaw01_awake.calls  true _ A2.out).mono ?_); rintro e w12 ⟨rfl, hb⟩; refine ⟨_, rfl, ?_⟩; have n0_ := Aside0.mk (below_step (by repeat (first | (with_reducible first | exact HB.out | apply below_alloc | apply pw_below_drewN | apply below_drew1) | exact HB.out)) hb); clear HB; have HB := n0_; clear n0_; (try clear hb); (try clear hb2); (try clear hk); (try clear hi)) | ((with_reducible refine gate_callee (f := 21) rfl ?_); refine goesL_ (some 9) rfl rfl Try.func21 (by kernel_rfl) rfl #[.int .u64 a0] rfl (by (try simp only [List.map_toArray, List.map_cons, List.map_nil]); first | done | rfl | (simp only [List.length_drop, List.length_take]; rfl)) ?_; (with_reducible refine (fix_Cbrt.calls a0 t153 _ A3.out).mono ?_); rintro e w13 ⟨rfl, hb⟩; refine ⟨_, rfl, ?_⟩; have n0_ := Aside0.mk (below_step (by repeat (first | (with_reducible first | exact HB.out | apply below_alloc | apply pw_below_drewN | apply below_drew1) | exact HB.out)) hb); clear HB; have HB := n0_; clear n0_; (try clear hb); (try clear hb2); (try clear hk); (try clear hi)))
          go_ret
          exact ⟨by first | rfl | (simp [errW_none, errW_some] <;> rfl) | (simp [*, errW_none, errW_some] <;> rfl), by repeat (first | (with_reducible first | exact HB.out | apply below_alloc | apply pw_below_drewN | apply below_drew1) | exact HB.out)⟩
      · replace c8 := Bool.eq_false_iff.mpr c8
        subst c8
        have H1 : (some false) = some r := by rw [if_neg (show ¬ (false = true) by decide)] at H; exact H
        clear H
        have H := H1
        clear H1
        obtain rfl := Option.some.inj H
        go_enter Try.func5, Try.ntmps5
        go_wp2_with (first | ((with_reducible refine gate_callee (f := 10) rfl ?_); refine goesL_ (some 7) rfl rfl Try.func10 (by kernel_rfl) rfl #[] rfl (by (try simp only [List.map_toArray, List.map_cons, List.map_nil]); first | done | rfl | (simp only [List.length_drop, List.length_take]; rfl)) ?_; (with_reducible refine (wigwaglaw01_awake.calls  false _ A2.out).mono ?_); rintro e w14 ⟨rfl, hb⟩; refine ⟨_, rfl, ?_⟩; have n0_ := Aside0.mk (below_step (by repeat (first | (with_reducible first | exact HB.out | apply below_alloc | apply pw_below_drewN | apply below_drew1) | exact HB.out)) hb); clear HB; have HB := n0_; clear n0_; (try clear hb); (try clear hb2); (try clear hk); (try clear hi)) | ((with_reducible refine gate_callee (f := 21) rfl ?_); refine goesL_ (some 9) rfl rfl Try.func21 (by kernel_rfl) rfl #[.int .u64 a0] rfl (by (try simp only [List.map_toArray, List.map_cons, List.map_nil]); first | done | rfl | (simp only [List.length_drop, List.length_take]; rfl)) ?_; (with_reducible refine (fix_Cbrt.calls a0 t153 _ A3.out).mono ?_); rintro e w15 ⟨rfl, hb⟩; refine ⟨_, rfl, ?_⟩; have n0_ := Aside0.mk (below_step (by repeat (first | (with_reducible first | exact HB.out | apply below_alloc | apply pw_below_drewN | apply below_drew1) | exact HB.out)) hb); clear HB; have HB := n0_; clear n0_; (try clear hb); (try clear hb2); (try clear hk); (try clear hi)))
        go_ret
        exact ⟨by first | rfl | (simp [errW_none, errW_some] <;> rfl) | (simp [*, errW_none, errW_some] <;> rfl), by repeat (first | (with_reducible first | exact HB.out | apply below_alloc | apply pw_below_drewN | apply below_drew1) | exact HB.out)⟩
    · rw [if_neg c7] at H
      have c7b0 : (t153 == 2642245) = false := beq_eq_false_iff_ne.mpr c7
      have c7b1 : (t153 != 2642245) = true := bne_iff_ne.mpr c7
      by_cases c16 : t152 = true
      · subst c16
        have H1 : (if (IntKind.u64.wrap ((IntKind.u64.wrap (t153 * t153)) * t153)) ≤ a0 then (some (decide ((IntKind.u64.wrap ((IntKind.u64.wrap ((IntKind.u64.wrap (t153 + 1)) * (IntKind.u64.wrap (t153 + 1)))) * (IntKind.u64.wrap (t153 + 1)))) > a0))) else (some false)) = some r := by rw [if_pos rfl] at H; exact H
        clear H
        have H := H1
        clear H1
        by_cases c17 : (IntKind.u64.wrap ((IntKind.u64.wrap (t153 * t153)) * t153)) ≤ a0
        · rw [if_pos c17] at H
          have c17b0 : decide ((IntKind.u64.wrap ((IntKind.u64.wrap (t153 * t153)) * t153)) ≤ a0) = true := decide_eq_true c17
          clear c17
          obtain rfl := Option.some.inj H
          go_enter Try.func5, Try.ntmps5
          go_wp2_with (first | ((with_reducible refine gate_callee (f := 10) rfl ?_); refine goesL_ (some 7) rfl rfl Try.func10 (by kernel_rfl) rfl #[] rfl (by (try simp only [List.map_toArray, List.map_cons, List.map_nil]); first | done | rfl | (simp only [List.length_drop, List.length_take]; rfl)) ?_; (with_reducible refine (wigwaglaw01_awake.calls  true _ A2.out).mono ?_); rintro e w18 ⟨rfl, hb⟩; refine ⟨_, rfl, ?_⟩; have n0_ := Aside0.mk (below_step (by repeat (first | (with_reducible first | exact HB.out | apply below_alloc | apply pw_below_drewN | apply below_drew1) | exact HB.out)) hb); clear HB; have HB := n0_; clear n0_; (try clear hb); (try clear hb2); (try clear hk); (try clear hi)) | ((with_reducible refine gate_callee (f := 21) rfl ?_); refine goesL_ (some 9) rfl rfl Try.func21 (by kernel_rfl) rfl #[.int .u64 a0] rfl (by (try simp only [List.map_toArray, List.map_cons, List.map_nil]); first | done | rfl | (simp only [List.length_drop, List.length_take]; rfl)) ?_; (with_reducible refine (fix_Cbrt.calls a0 t153 _ A3.out).mono ?_); rintro e w19 ⟨rfl, hb⟩; refine ⟨_, rfl, ?_⟩; have n0_ := Aside0.mk (below_step (by repeat (first | (with_reducible first | exact HB.out | apply below_alloc | apply pw_below_drewN | apply below_drew1) | exact HB.out)) hb); clear HB; have HB := n0_; clear n0_; (try clear hb); (try clear hb2); (try clear hk); (try clear hi)))
          go_ret
          exact ⟨by first | rfl | (simp [errW_none, errW_some] <;> rfl) | (simp [*, errW_none, errW_some] <;> rfl), by repeat (first | (with_reducible first | exact HB.out | apply below_alloc | apply pw_below_drewN | apply below_drew1) | exact HB.out)⟩
        · rw [if_neg c17] at H
          have c17b0 : decide ((IntKind.u64.wrap ((IntKind.u64.wrap (t153 * t153)) * t153)) ≤ a0) = false := decide_eq_false c17
          clear c17
          obtain rfl := Option.some.inj H
          go_enter Try.func5, Try.ntmps5
          go_wp2_with (first | ((with_reducible refine gate_callee (f := 10) rfl ?_); refine goesL_ (some 7) rfl rfl Try.func10 (by kernel_rfl) rfl #[] rfl (by (try simp only [List.map_toArray, List.map_cons, List.map_nil]); first | done | rfl | (simp only [List.length_drop, List.length_take]; rfl)) ?_; (with_reducible refine (wigwaglaw01_awake.calls  true _ A2.out).mono ?_); rintro e w20 ⟨rfl, hb⟩; refine ⟨_, rfl, ?_⟩; have n0_ := Aside0.mk (below_step (by repeat (first | (with_reducible first | exact HB.out | apply below_alloc | apply pw_below_drewN | apply below_drew1) | exact HB.out)) hb); clear HB; have HB := n0_; clear n0_; (try clear hb); (try clear hb2); (try clear hk); (try clear hi)) | ((with_reducible refine gate_callee (f := 21) rfl ?_); refine goesL_ (some 9) rfl rfl Try.func21 (by kernel_rfl) rfl #[.int .u64 a0] rfl (by (try simp only [List.map_toArray, List.map_cons, List.map_nil]); first | done | rfl | (simp only [List.length_drop, List.length_take]; rfl)) ?_; (with_reducible refine (fix_Cbrt.calls a0 t153 _ A3.out).mono ?_); rintro e w21 ⟨rfl, hb⟩; refine ⟨_, rfl, ?_⟩; have n0_ := Aside0.mk (below_step (by repeat (first | (with_reducible first | exact HB.out | apply below_alloc | apply pw_below_drewN | apply below_drew1) | exact HB.out)) hb); clear HB; have HB := n0_; clear n0_; (try clear hb); (try clear hb2); (try clear hk); (try clear hi)))
          go_ret
          exact ⟨by first | rfl | (simp [errW_none, errW_some] <;> rfl) | (simp [*, errW_none, errW_some] <;> rfl), by repeat (first | (with_reducible first | exact HB.out | apply below_alloc | apply pw_below_drewN | apply below_drew1) | exact HB.out)⟩
      · replace c16 := Bool.eq_false_iff.mpr c16
        subst c16
        have H1 : (some false) = some r := by rw [if_neg (show ¬ (false = true) by decide)] at H; exact H
        clear H
        have H := H1
        clear H1
        obtain rfl := Option.some.inj H
        go_enter Try.func5, Try.ntmps5
        go_wp2_with (first | ((with_reducible refine gate_callee (f := 10) rfl ?_); refine goesL_ (some 7) rfl rfl Try.func10 (by kernel_rfl) rfl #[] rfl (by (try simp only [List.map_toArray, List.map_cons, List.map_nil]); first | done | rfl | (simp only [List.length_drop, List.length_take]; rfl)) ?_; (with_reducible refine (wigwaglaw01_awake.calls  false _ A2.out).mono ?_); rintro e w22 ⟨rfl, hb⟩; refine ⟨_, rfl, ?_⟩; have n0_ := Aside0.mk (below_step (by repeat (first | (with_reducible first | exact HB.out | apply below_alloc | apply pw_below_drewN | apply below_drew1) | exact HB.out)) hb); clear HB; have HB := n0_; clear n0_; (try clear hb); (try clear hb2); (try clear hk); (try clear hi)) | ((with_reducible refine gate_callee (f := 21) rfl ?_); refine goesL_ (some 9) rfl rfl Try.func21 (by kernel_rfl) rfl #[.int .u64 a0] rfl (by (try simp only [List.map_toArray, List.map_cons, List.map_nil]); first | done | rfl | (simp only [List.length_drop, List.length_take]; rfl)) ?_; (with_reducible refine (fix_Cbrt.calls a0 t153 _ A3.out).mono ?_); rintro e w23 ⟨rfl, hb⟩; refine ⟨_, rfl, ?_⟩; have n0_ := Aside0.mk (below_step (by repeat (first | (with_reducible first | exact HB.out | apply below_alloc | apply pw_below_drewN | apply below_drew1) | exact HB.out)) hb); clear HB; have HB := n0_; clear n0_; (try clear hb); (try clear hb2); (try clear hk); (try clear hi)))
        go_ret
        exact ⟨by first | rfl | (simp [errW_none, errW_some] <;> rfl) | (simp [*, errW_none, errW_some] <;> rfl), by repeat (first | (with_reducible first | exact HB.out | apply below_alloc | apply pw_below_drewN | apply below_drew1) | exact HB.out)⟩

/-- THE ONE PURE STATEMENT of wigwaglaw01_FixRoots: yours. -/
def wigwaglaw01_FixRoots.Pure : Prop := ∀ (a0 : Int), (Lit.int .u64 a0).wf = true → wigwaglaw01_FixRoots.f a0 = some true
theorem wigwaglaw01_FixRoots.walk (P : wigwaglaw01_FixRoots.Pure) (a0 : Int) (w : World) (w0 : (Lit.int .u64 a0).wf = true) :
    Calls Try.prog 5 #[.int .u64 a0] w fun e w' => e = .returned (.bool true) ∧ Below w.heap.size w w' := by
  have h := P a0 w0
  refine (wigwaglaw01_FixRoots.calls a0 true w h).mono ?_
  rintro e w' ⟨rfl, hd⟩
  exact ⟨rfl, hd⟩

/-! ### wigwaglaw01_FixUndoes: function 6 -/
def wigwaglaw01_FixUndoes.j0 : Nat → Int → Int → Bool → Int → Bool → Option (Bool)
  | 0, _, _, _, _, _ => none
  | k + 1, x0, x1, x5, x6, x7 => if x1 = 0 then (if x5 = true then (if x7 = true then ((fix_SubT.f x0 0).bind fun t157 => (if t157 = x0 then ((fix_MulDivT.f x0 0 x1).bind fun t158 => (if t158 = 0 then ((fix_Gain.f x0 256).bind fun t159 => (if t159 = x0 then (if x6 ≥ x0 then (some (decide (x6 ≥ x1))) else (some false)) else (some false))) else (some false))) else (some false))) else (some false)) else (some false)) else ((fix_MulDivT.f x0 x1 x1).bind fun t160 => (if x5 = true then (if x7 = true then (if t160 = x0 then ((fix_SubT.f x0 0).bind fun t161 => (if t161 = x0 then ((fix_MulDivT.f x0 0 x1).bind fun t162 => (if t162 = 0 then ((fix_Gain.f x0 256).bind fun t163 => (if t163 = x0 then (if x6 ≥ x0 then (some (decide (x6 ≥ x1))) else (some false)) else (some false))) else (some false))) else (some false))) else (some false)) else (some false)) else (some false)))
def wigwaglaw01_FixUndoes.f (k : Nat) (a0 : Int) (a1 : Int) : Option (Bool) := (wigwaglaw01_awake.f).bind fun t154 => ((fix_Add.f a0 a1).bind fun t155 => ((fix_SubT.f t155 a1).bind fun t156 => (if t156 = a0 then (wigwaglaw01_FixUndoes.j0 k a0 a1 t154 t155 true) else (wigwaglaw01_FixUndoes.j0 k a0 a1 t154 t155 (t155 == 18446744073709551615)))))
theorem wigwaglaw01_FixUndoes.mono_l : ∀ k, (∀ y0 y1 y2 y3 y4, LeO (wigwaglaw01_FixUndoes.j0 k y0 y1 y2 y3 y4) (wigwaglaw01_FixUndoes.j0 (k + 1) y0 y1 y2 y3 y4))
  | 0 => fun _ _ _ _ _ r h => by simp [wigwaglaw01_FixUndoes.j0] at h
  | k + 1 => by
    have ih0 := wigwaglaw01_FixUndoes.mono_l k
    · intro y0 y1 y2 y3 y4
      unfold wigwaglaw01_FixUndoes.j0
      repeat' first
      | (with_reducible exact ih0 _ _ _ _ _)
      | (with_reducible exact LeO.refl _)
      | (with_reducible exact LeO.none _)
      | (with_reducible refine LeO.ite ?_ ?_)
      | (with_reducible refine LeO.bind ?_ (fun _ => ?_))
      | exact ih0 _ _ _ _ _
      | exact LeO.none _
      | refine LeO.ite ?_ ?_
      | refine LeO.bind ?_ (fun _ => ?_)
theorem wigwaglaw01_FixUndoes.mono : ∀ a0 a1 k, LeO (wigwaglaw01_FixUndoes.f k a0 a1) (wigwaglaw01_FixUndoes.f (k + 1) a0 a1) := by
  intro a0 a1 k
  have ih0 := wigwaglaw01_FixUndoes.mono_l k
  unfold wigwaglaw01_FixUndoes.f
  repeat' first
      | (with_reducible exact ih0 _ _ _ _ _)
      | (with_reducible exact LeO.refl _)
      | (with_reducible exact LeO.none _)
      | (with_reducible refine LeO.ite ?_ ?_)
      | (with_reducible refine LeO.bind ?_ (fun _ => ?_))
      | exact ih0 _ _ _ _ _
      | exact LeO.none _
      | refine LeO.ite ?_ ?_
      | refine LeO.bind ?_ (fun _ => ?_)
set_option maxHeartbeats 8000000 in
set_option maxRecDepth 100000 in
theorem wigwaglaw01_FixUndoes.calls (k : Nat) (a0 : Int) (a1 : Int) (r : Bool) (w : World) (h : wigwaglaw01_FixUndoes.f k a0 a1 = some r) :
    Calls Try.prog 6 #[.int .u64 a0, .int .u64 a1] w fun e w' => e = .returned (.bool r) ∧ Below w.heap.size w w' := by
  have HB := Aside0.mk (Below.refl w.heap.size w)
  have H : ((wigwaglaw01_awake.f).bind fun t154 => ((fix_Add.f a0 a1).bind fun t155 => ((fix_SubT.f t155 a1).bind fun t156 => (if t156 = a0 then (wigwaglaw01_FixUndoes.j0 k a0 a1 t154 t155 true) else (wigwaglaw01_FixUndoes.j0 k a0 a1 t154 t155 (t155 == 18446744073709551615)))))) = some r := h
  clear h
  replace H := Option.bind_eq_some_iff.mp H
  obtain ⟨t154, A30, H⟩ := H
  replace H : ((fix_Add.f a0 a1).bind fun t155 => ((fix_SubT.f t155 a1).bind fun t156 => (if t156 = a0 then (wigwaglaw01_FixUndoes.j0 k a0 a1 t154 t155 true) else (wigwaglaw01_FixUndoes.j0 k a0 a1 t154 t155 (t155 == 18446744073709551615))))) = some r := H
  have A3 := Aside0.mk A30
  clear A30
  replace H := Option.bind_eq_some_iff.mp H
  obtain ⟨t155, A40, H⟩ := H
  replace H : ((fix_SubT.f t155 a1).bind fun t156 => (if t156 = a0 then (wigwaglaw01_FixUndoes.j0 k a0 a1 t154 t155 true) else (wigwaglaw01_FixUndoes.j0 k a0 a1 t154 t155 (t155 == 18446744073709551615)))) = some r := H
  have A4 := Aside0.mk A40
  clear A40
  have HC5 := Aside0.mk H
  clear H
  go_enter Try.func6, Try.ntmps6
  go_upto_region 3 with (first | ((with_reducible refine gate_callee (f := 10) rfl ?_); refine goesL_ (some 9) rfl rfl Try.func10 (by kernel_rfl) rfl #[] rfl (by (try simp only [List.map_toArray, List.map_cons, List.map_nil]); first | done | rfl | (simp only [List.length_drop, List.length_take]; rfl)) ?_; (with_reducible refine (wigwaglaw01_awake.calls  t154 _ A3.out).mono ?_); rintro e w6 ⟨rfl, hb⟩; refine ⟨_, rfl, ?_⟩; have n0_ := Aside0.mk (below_step (by repeat (first | (with_reducible first | exact HB.out | apply below_alloc | apply pw_below_drewN | apply below_drew1) | exact HB.out)) hb); clear HB; have HB := n0_; clear n0_; (try clear hb); (try clear hb2); (try clear hk); (try clear hi)) | ((with_reducible refine gate_callee (f := 11) rfl ?_); refine goesL_ (some 12) rfl rfl Try.func11 (by kernel_rfl) rfl #[.int .u64 a0, .int .u64 a1] rfl (by (try simp only [List.map_toArray, List.map_cons, List.map_nil]); first | done | rfl | (simp only [List.length_drop, List.length_take]; rfl)) ?_; (with_reducible refine (fix_Add.calls a0 a1 t155 _ A4.out).mono ?_); rintro e w' ⟨rfl, ⟨nd, rfl⟩⟩; refine ⟨_, rfl, ?_⟩))
  (try simp only [Act.put, List.setIfInBounds_toArray, List.set_cons_zero, List.set_cons_succ])
  go_cut [7] (fun v7 wc => ∃ (kq : Nat) (x7_4 : Bool), v7 = .bool x7_4 ∧ Aside0 (wigwaglaw01_FixUndoes.j0 kq a0 a1 t154 t155 x7_4 = some r) ∧ Aside0 (kq ≤ k) ∧ Aside0 (Below w.heap.size w wc))
  case first =>
    have H := HC5.out
    clear HC5
    replace H := Option.bind_eq_some_iff.mp H
    obtain ⟨t156, A70, H⟩ := H
    replace H : (if t156 = a0 then (wigwaglaw01_FixUndoes.j0 k a0 a1 t154 t155 true) else (wigwaglaw01_FixUndoes.j0 k a0 a1 t154 t155 (t155 == 18446744073709551615))) = some r := H
    have A7 := Aside0.mk A70
    clear A70
    by_cases c8 : t156 = a0
    · rw [if_pos c8] at H
      have c8b0 : (t156 == a0) = true := beq_iff_eq.mpr c8
      have c8b1 : (t156 != a0) = false := bne_eq_false_iff_eq.mpr c8
      clear c8
      (first | rw [c8b0] | (simp only [i64_w, i32_w]; rw [c8b0]) | skip)
      have H' := Aside0.mk H
      clear H
      go_wp2_with (first | ((with_reducible refine gate_callee (f := 13) rfl ?_); refine goesL_ (some 15) rfl rfl Try.func13 (by kernel_rfl) rfl #[.int .u64 t155, .int .u64 a1] rfl (by (try simp only [List.map_toArray, List.map_cons, List.map_nil]); first | done | rfl | (simp only [List.length_drop, List.length_take]; rfl)) ?_; (with_reducible refine (fix_SubT.calls t155 a1 t156 _ A7.out).mono ?_); rintro e w9 ⟨rfl, hb⟩; refine ⟨_, rfl, ?_⟩; have n0_ := Aside0.mk (below_step (by repeat (first | (with_reducible first | exact HB.out | apply below_alloc | apply pw_below_drewN | apply below_drew1) | exact HB.out)) hb); clear HB; have HB := n0_; clear n0_; (try clear hb); (try clear hb2); (try clear hk); (try clear hi)))
      go_meet
      case rel => exact ⟨_, (true), (by first | rfl | (simp; done) | (simp [*]; done)), H', ⟨by first | omega | exact Nat.le_refl _⟩, ⟨by repeat (first | (with_reducible first | exact HB.out | apply below_alloc | apply pw_below_drewN | apply below_drew1) | exact HB.out)⟩⟩
    · rw [if_neg c8] at H
      have c8b0 : (t156 == a0) = false := beq_eq_false_iff_ne.mpr c8
      have c8b1 : (t156 != a0) = true := bne_iff_ne.mpr c8
      (first | rw [c8b0] | (simp only [i64_w, i32_w]; rw [c8b0]) | skip)
      have H' := Aside0.mk H
      clear H
      go_wp2_with (first | ((with_reducible refine gate_callee (f := 13) rfl ?_); refine goesL_ (some 15) rfl rfl Try.func13 (by kernel_rfl) rfl #[.int .u64 t155, .int .u64 a1] rfl (by (try simp only [List.map_toArray, List.map_cons, List.map_nil]); first | done | rfl | (simp only [List.length_drop, List.length_take]; rfl)) ?_; (with_reducible refine (fix_SubT.calls t155 a1 t156 _ A7.out).mono ?_); rintro e w10 ⟨rfl, hb⟩; refine ⟨_, rfl, ?_⟩; have n0_ := Aside0.mk (below_step (by repeat (first | (with_reducible first | exact HB.out | apply below_alloc | apply pw_below_drewN | apply below_drew1) | exact HB.out)) hb); clear HB; have HB := n0_; clear n0_; (try clear hb); (try clear hb2); (try clear hk); (try clear hi)))
      go_meet
      case rel => exact ⟨_, ((t155 == 18446744073709551615)), (by first | rfl | (simp; done) | (simp [*]; done)), H', ⟨by first | omega | exact Nat.le_refl _⟩, ⟨by repeat (first | (with_reducible first | exact HB.out | apply below_alloc | apply pw_below_drewN | apply below_drew1) | exact HB.out)⟩⟩
  case rest =>
    clear HC5
    try clear c1
    try clear p2
    try clear c6
    try clear c8
    try clear c8b0
    try clear c8b1
    try clear c10
    obtain ⟨kq, x7_4, rfl, HA, HJ4, HB⟩ := hcut
    cases kq with
    | zero => exact absurd HA.out (by simp [wigwaglaw01_FixUndoes.j0])
    | succ kj4 =>
      have H := HA.out
      clear HA
      simp only [wigwaglaw01_FixUndoes.j0] at H
      by_cases c11 : a1 = 0
      · rw [if_pos c11] at H
        have c11b0 : (a1 == 0) = true := beq_iff_eq.mpr c11
        have c11b1 : (a1 != 0) = false := bne_eq_false_iff_eq.mpr c11
        clear c11
        by_cases c12 : t154 = true
        · subst c12
          have H1 : (if x7_4 = true then ((fix_SubT.f a0 0).bind fun t157 => (if t157 = a0 then ((fix_MulDivT.f a0 0 a1).bind fun t158 => (if t158 = 0 then ((fix_Gain.f a0 256).bind fun t159 => (if t159 = a0 then (if t155 ≥ a0 then (some (decide (t155 ≥ a1))) else (some false)) else (some false))) else (some false))) else (some false))) else (some false)) = some r := by rw [if_pos rfl] at H; exact H
          clear H
          have H := H1
          clear H1
          by_cases c13 : x7_4 = true
          · subst c13
            have H1 : ((fix_SubT.f a0 0).bind fun t157 => (if t157 = a0 then ((fix_MulDivT.f a0 0 a1).bind fun t158 => (if t158 = 0 then ((fix_Gain.f a0 256).bind fun t159 => (if t159 = a0 then (if t155 ≥ a0 then (some (decide (t155 ≥ a1))) else (some false)) else (some false))) else (some false))) else (some false))) = some r := by rw [if_pos rfl] at H; exact H
            clear H
            have H := H1
            clear H1
            replace H := Option.bind_eq_some_iff.mp H
            obtain ⟨t157, A140, H⟩ := H
            replace H : (if t157 = a0 then ((fix_MulDivT.f a0 0 a1).bind fun t158 => (if t158 = 0 then ((fix_Gain.f a0 256).bind fun t159 => (if t159 = a0 then (if t155 ≥ a0 then (some (decide (t155 ≥ a1))) else (some false)) else (some false))) else (some false))) else (some false)) = some r := H
            have A14 := Aside0.mk A140
            clear A140
            by_cases c15 : t157 = a0
            · rw [if_pos c15] at H
              have c15b0 : (t157 == a0) = true := beq_iff_eq.mpr c15
              have c15b1 : (t157 != a0) = false := bne_eq_false_iff_eq.mpr c15
              clear c15
              replace H := Option.bind_eq_some_iff.mp H
              obtain ⟨t158, A160, H⟩ := H
              replace H : (if t158 = 0 then ((fix_Gain.f a0 256).bind fun t159 => (if t159 = a0 then (if t155 ≥ a0 then (some (decide (t155 ≥ a1))) else (some false)) else (some false))) else (some false)) = some r := H
              have A16 := Aside0.mk A160
              clear A160
              by_cases c17 : t158 = 0
              · rw [if_pos c17] at H
                have c17b0 : (t158 == 0) = true := beq_iff_eq.mpr c17
                have c17b1 : (t158 != 0) = false := bne_eq_false_iff_eq.mpr c17
                clear c17
                replace H := Option.bind_eq_some_iff.mp H
                obtain ⟨t159, A180, H⟩ := H
                replace H : (if t159 = a0 then (if t155 ≥ a0 then (some (decide (t155 ≥ a1))) else (some false)) else (some false)) = some r := H
                have A18 := Aside0.mk A180
                clear A180
                by_cases c19 : t159 = a0
                · rw [if_pos c19] at H
                  have c19b0 : (t159 == a0) = true := beq_iff_eq.mpr c19
                  have c19b1 : (t159 != a0) = false := bne_eq_false_iff_eq.mpr c19
                  clear c19
                  by_cases c20 : t155 ≥ a0
                  · rw [if_pos c20] at H
                    have c20b0 : decide (a0 ≤ t155) = true := decide_eq_true c20
                    clear c20
                    obtain rfl := Option.some.inj H
                    go_wp2_with (first | (go_at_call 13; (with_reducible refine (fix_SubT.calls a0 0 t157 _ A14.out).mono ?_); rintro e w21 ⟨rfl, hb⟩; have n0_ := Aside0.mk (below_step (by repeat (first | (with_reducible first | exact HB.out | apply below_alloc | apply pw_below_drewN | apply below_drew1) | exact HB.out)) hb); clear HB; have HB := n0_; clear n0_; (try clear hb); (try clear hb2); (try clear hk); (try clear hi)) | (go_at_call 17; (with_reducible refine (fix_MulDivT.calls a0 0 a1 t158 _ A16.out).mono ?_); rintro e w' ⟨rfl, ⟨nd, rfl⟩⟩) | (go_at_call 19; (with_reducible refine (fix_Gain.calls a0 256 t159 _ A18.out).mono ?_); rintro e w' ⟨rfl, ⟨nd, rfl⟩⟩))
                    go_ret
                    exact ⟨by first | rfl | (simp [errW_none, errW_some] <;> rfl) | (simp [*, errW_none, errW_some] <;> rfl), by repeat (first | (with_reducible first | exact HB.out | apply below_alloc | apply pw_below_drewN | apply below_drew1) | exact HB.out)⟩
                  · rw [if_neg c20] at H
                    have c20b0 : decide (a0 ≤ t155) = false := decide_eq_false c20
                    clear c20
                    obtain rfl := Option.some.inj H
                    go_wp2_with (first | (go_at_call 13; (with_reducible refine (fix_SubT.calls a0 0 t157 _ A14.out).mono ?_); rintro e w22 ⟨rfl, hb⟩; have n0_ := Aside0.mk (below_step (by repeat (first | (with_reducible first | exact HB.out | apply below_alloc | apply pw_below_drewN | apply below_drew1) | exact HB.out)) hb); clear HB; have HB := n0_; clear n0_; (try clear hb); (try clear hb2); (try clear hk); (try clear hi)) | (go_at_call 17; (with_reducible refine (fix_MulDivT.calls a0 0 a1 t158 _ A16.out).mono ?_); rintro e w' ⟨rfl, ⟨nd, rfl⟩⟩) | (go_at_call 19; (with_reducible refine (fix_Gain.calls a0 256 t159 _ A18.out).mono ?_); rintro e w' ⟨rfl, ⟨nd, rfl⟩⟩))
                    go_ret
                    exact ⟨by first | rfl | (simp [errW_none, errW_some] <;> rfl) | (simp [*, errW_none, errW_some] <;> rfl), by repeat (first | (with_reducible first | exact HB.out | apply below_alloc | apply pw_below_drewN | apply below_drew1) | exact HB.out)⟩
                · rw [if_neg c19] at H
                  have c19b0 : (t159 == a0) = false := beq_eq_false_iff_ne.mpr c19
                  have c19b1 : (t159 != a0) = true := bne_iff_ne.mpr c19
                  obtain rfl := Option.some.inj H
                  go_wp2_with (first | (go_at_call 13; (with_reducible refine (fix_SubT.calls a0 0 t157 _ A14.out).mono ?_); rintro e w23 ⟨rfl, hb⟩; have n0_ := Aside0.mk (below_step (by repeat (first | (with_reducible first | exact HB.out | apply below_alloc | apply pw_below_drewN | apply below_drew1) | exact HB.out)) hb); clear HB; have HB := n0_; clear n0_; (try clear hb); (try clear hb2); (try clear hk); (try clear hi)) | (go_at_call 17; (with_reducible refine (fix_MulDivT.calls a0 0 a1 t158 _ A16.out).mono ?_); rintro e w' ⟨rfl, ⟨nd, rfl⟩⟩) | (go_at_call 19; (with_reducible refine (fix_Gain.calls a0 256 t159 _ A18.out).mono ?_); rintro e w' ⟨rfl, ⟨nd, rfl⟩⟩))
                  go_ret
                  exact ⟨by first | rfl | (simp [errW_none, errW_some] <;> rfl) | (simp [*, errW_none, errW_some] <;> rfl), by repeat (first | (with_reducible first | exact HB.out | apply below_alloc | apply pw_below_drewN | apply below_drew1) | exact HB.out)⟩
              · rw [if_neg c17] at H
                have c17b0 : (t158 == 0) = false := beq_eq_false_iff_ne.mpr c17
                have c17b1 : (t158 != 0) = true := bne_iff_ne.mpr c17
                obtain rfl := Option.some.inj H
                go_wp2_with (first | (go_at_call 13; (with_reducible refine (fix_SubT.calls a0 0 t157 _ A14.out).mono ?_); rintro e w24 ⟨rfl, hb⟩; have n0_ := Aside0.mk (below_step (by repeat (first | (with_reducible first | exact HB.out | apply below_alloc | apply pw_below_drewN | apply below_drew1) | exact HB.out)) hb); clear HB; have HB := n0_; clear n0_; (try clear hb); (try clear hb2); (try clear hk); (try clear hi)) | (go_at_call 17; (with_reducible refine (fix_MulDivT.calls a0 0 a1 t158 _ A16.out).mono ?_); rintro e w' ⟨rfl, ⟨nd, rfl⟩⟩))
                go_ret
                exact ⟨by first | rfl | (simp [errW_none, errW_some] <;> rfl) | (simp [*, errW_none, errW_some] <;> rfl), by repeat (first | (with_reducible first | exact HB.out | apply below_alloc | apply pw_below_drewN | apply below_drew1) | exact HB.out)⟩
            · rw [if_neg c15] at H
              have c15b0 : (t157 == a0) = false := beq_eq_false_iff_ne.mpr c15
              have c15b1 : (t157 != a0) = true := bne_iff_ne.mpr c15
              obtain rfl := Option.some.inj H
              go_wp2_with (first | (go_at_call 13; (with_reducible refine (fix_SubT.calls a0 0 t157 _ A14.out).mono ?_); rintro e w25 ⟨rfl, hb⟩; have n0_ := Aside0.mk (below_step (by repeat (first | (with_reducible first | exact HB.out | apply below_alloc | apply pw_below_drewN | apply below_drew1) | exact HB.out)) hb); clear HB; have HB := n0_; clear n0_; (try clear hb); (try clear hb2); (try clear hk); (try clear hi)))
              go_ret
              exact ⟨by first | rfl | (simp [errW_none, errW_some] <;> rfl) | (simp [*, errW_none, errW_some] <;> rfl), by repeat (first | (with_reducible first | exact HB.out | apply below_alloc | apply pw_below_drewN | apply below_drew1) | exact HB.out)⟩
          · replace c13 := Bool.eq_false_iff.mpr c13
            subst c13
            have H1 : (some false) = some r := by rw [if_neg (show ¬ (false = true) by decide)] at H; exact H
            clear H
            have H := H1
            clear H1
            obtain rfl := Option.some.inj H
            go_wp2
            go_ret
            exact ⟨by first | rfl | (simp [errW_none, errW_some] <;> rfl) | (simp [*, errW_none, errW_some] <;> rfl), by repeat (first | (with_reducible first | exact HB.out | apply below_alloc | apply pw_below_drewN | apply below_drew1) | exact HB.out)⟩
        · replace c12 := Bool.eq_false_iff.mpr c12
          subst c12
          have H1 : (some false) = some r := by rw [if_neg (show ¬ (false = true) by decide)] at H; exact H
          clear H
          have H := H1
          clear H1
          obtain rfl := Option.some.inj H
          go_wp2
          go_ret
          exact ⟨by first | rfl | (simp [errW_none, errW_some] <;> rfl) | (simp [*, errW_none, errW_some] <;> rfl), by repeat (first | (with_reducible first | exact HB.out | apply below_alloc | apply pw_below_drewN | apply below_drew1) | exact HB.out)⟩
      · rw [if_neg c11] at H
        have c11b0 : (a1 == 0) = false := beq_eq_false_iff_ne.mpr c11
        have c11b1 : (a1 != 0) = true := bne_iff_ne.mpr c11
        replace H := Option.bind_eq_some_iff.mp H
        obtain ⟨t160, A260, H⟩ := H
        replace H : (if t154 = true then (if x7_4 = true then (if t160 = a0 then ((fix_SubT.f a0 0).bind fun t161 => (if t161 = a0 then ((fix_MulDivT.f a0 0 a1).bind fun t162 => (if t162 = 0 then ((fix_Gain.f a0 256).bind fun t163 => (if t163 = a0 then (if t155 ≥ a0 then (some (decide (t155 ≥ a1))) else (some false)) else (some false))) else (some false))) else (some false))) else (some false)) else (some false)) else (some false)) = some r := H
        have A26 := Aside0.mk A260
        clear A260
        by_cases c27 : t154 = true
        · subst c27
          have H1 : (if x7_4 = true then (if t160 = a0 then ((fix_SubT.f a0 0).bind fun t161 => (if t161 = a0 then ((fix_MulDivT.f a0 0 a1).bind fun t162 => (if t162 = 0 then ((fix_Gain.f a0 256).bind fun t163 => (if t163 = a0 then (if t155 ≥ a0 then (some (decide (t155 ≥ a1))) else (some false)) else (some false))) else (some false))) else (some false))) else (some false)) else (some false)) = some r := by rw [if_pos rfl] at H; exact H
          clear H
          have H := H1
          clear H1
          by_cases c28 : x7_4 = true
          · subst c28
            have H1 : (if t160 = a0 then ((fix_SubT.f a0 0).bind fun t161 => (if t161 = a0 then ((fix_MulDivT.f a0 0 a1).bind fun t162 => (if t162 = 0 then ((fix_Gain.f a0 256).bind fun t163 => (if t163 = a0 then (if t155 ≥ a0 then (some (decide (t155 ≥ a1))) else (some false)) else (some false))) else (some false))) else (some false))) else (some false)) = some r := by rw [if_pos rfl] at H; exact H
            clear H
            have H := H1
            clear H1
            by_cases c29 : t160 = a0
            · rw [if_pos c29] at H
              have c29b0 : (t160 == a0) = true := beq_iff_eq.mpr c29
              have c29b1 : (t160 != a0) = false := bne_eq_false_iff_eq.mpr c29
              clear c29
              replace H := Option.bind_eq_some_iff.mp H
              obtain ⟨t161, A300, H⟩ := H
              replace H : (if t161 = a0 then ((fix_MulDivT.f a0 0 a1).bind fun t162 => (if t162 = 0 then ((fix_Gain.f a0 256).bind fun t163 => (if t163 = a0 then (if t155 ≥ a0 then (some (decide (t155 ≥ a1))) else (some false)) else (some false))) else (some false))) else (some false)) = some r := H
              have A30 := Aside0.mk A300
              clear A300
              by_cases c31 : t161 = a0
              · rw [if_pos c31] at H
                have c31b0 : (t161 == a0) = true := beq_iff_eq.mpr c31
                have c31b1 : (t161 != a0) = false := bne_eq_false_iff_eq.mpr c31
                clear c31
                replace H := Option.bind_eq_some_iff.mp H
                obtain ⟨t162, A320, H⟩ := H
                replace H : (if t162 = 0 then ((fix_Gain.f a0 256).bind fun t163 => (if t163 = a0 then (if t155 ≥ a0 then (some (decide (t155 ≥ a1))) else (some false)) else (some false))) else (some false)) = some r := H
                have A32 := Aside0.mk A320
                clear A320
                by_cases c33 : t162 = 0
                · rw [if_pos c33] at H
                  have c33b0 : (t162 == 0) = true := beq_iff_eq.mpr c33
                  have c33b1 : (t162 != 0) = false := bne_eq_false_iff_eq.mpr c33
                  clear c33
                  replace H := Option.bind_eq_some_iff.mp H
                  obtain ⟨t163, A340, H⟩ := H
                  replace H : (if t163 = a0 then (if t155 ≥ a0 then (some (decide (t155 ≥ a1))) else (some false)) else (some false)) = some r := H
                  have A34 := Aside0.mk A340
                  clear A340
                  by_cases c35 : t163 = a0
                  · rw [if_pos c35] at H
                    have c35b0 : (t163 == a0) = true := beq_iff_eq.mpr c35
                    have c35b1 : (t163 != a0) = false := bne_eq_false_iff_eq.mpr c35
                    clear c35
                    by_cases c36 : t155 ≥ a0
                    · rw [if_pos c36] at H
                      have c36b0 : decide (a0 ≤ t155) = true := decide_eq_true c36
                      clear c36
                      obtain rfl := Option.some.inj H
                      go_wp2_with (first | (go_at_call 17; (with_reducible refine (fix_MulDivT.calls a0 a1 a1 t160 _ A26.out).mono ?_); rintro e w' ⟨rfl, ⟨nd, rfl⟩⟩) | (go_at_call 13; (with_reducible refine (fix_SubT.calls a0 0 t161 _ A30.out).mono ?_); rintro e w37 ⟨rfl, hb⟩; have n0_ := Aside0.mk (below_step (by repeat (first | (with_reducible first | exact HB.out | apply below_alloc | apply pw_below_drewN | apply below_drew1) | exact HB.out)) hb); clear HB; have HB := n0_; clear n0_; (try clear hb); (try clear hb2); (try clear hk); (try clear hi)) | (go_at_call 17; (with_reducible refine (fix_MulDivT.calls a0 0 a1 t162 _ A32.out).mono ?_); rintro e w' ⟨rfl, ⟨nd, rfl⟩⟩) | (go_at_call 19; (with_reducible refine (fix_Gain.calls a0 256 t163 _ A34.out).mono ?_); rintro e w' ⟨rfl, ⟨nd, rfl⟩⟩))
                      go_ret
                      exact ⟨by first | rfl | (simp [errW_none, errW_some] <;> rfl) | (simp [*, errW_none, errW_some] <;> rfl), by repeat (first | (with_reducible first | exact HB.out | apply below_alloc | apply pw_below_drewN | apply below_drew1) | exact HB.out)⟩
                    · rw [if_neg c36] at H
                      have c36b0 : decide (a0 ≤ t155) = false := decide_eq_false c36
                      clear c36
                      obtain rfl := Option.some.inj H
                      go_wp2_with (first | (go_at_call 17; (with_reducible refine (fix_MulDivT.calls a0 a1 a1 t160 _ A26.out).mono ?_); rintro e w' ⟨rfl, ⟨nd, rfl⟩⟩) | (go_at_call 13; (with_reducible refine (fix_SubT.calls a0 0 t161 _ A30.out).mono ?_); rintro e w38 ⟨rfl, hb⟩; have n0_ := Aside0.mk (below_step (by repeat (first | (with_reducible first | exact HB.out | apply below_alloc | apply pw_below_drewN | apply below_drew1) | exact HB.out)) hb); clear HB; have HB := n0_; clear n0_; (try clear hb); (try clear hb2); (try clear hk); (try clear hi)) | (go_at_call 17; (with_reducible refine (fix_MulDivT.calls a0 0 a1 t162 _ A32.out).mono ?_); rintro e w' ⟨rfl, ⟨nd, rfl⟩⟩) | (go_at_call 19; (with_reducible refine (fix_Gain.calls a0 256 t163 _ A34.out).mono ?_); rintro e w' ⟨rfl, ⟨nd, rfl⟩⟩))
                      go_ret
                      exact ⟨by first | rfl | (simp [errW_none, errW_some] <;> rfl) | (simp [*, errW_none, errW_some] <;> rfl), by repeat (first | (with_reducible first | exact HB.out | apply below_alloc | apply pw_below_drewN | apply below_drew1) | exact HB.out)⟩
                  · rw [if_neg c35] at H
                    have c35b0 : (t163 == a0) = false := beq_eq_false_iff_ne.mpr c35
                    have c35b1 : (t163 != a0) = true := bne_iff_ne.mpr c35
                    obtain rfl := Option.some.inj H
                    go_wp2_with (first | (go_at_call 17; (with_reducible refine (fix_MulDivT.calls a0 a1 a1 t160 _ A26.out).mono ?_); rintro e w' ⟨rfl, ⟨nd, rfl⟩⟩) | (go_at_call 13; (with_reducible refine (fix_SubT.calls a0 0 t161 _ A30.out).mono ?_); rintro e w39 ⟨rfl, hb⟩; have n0_ := Aside0.mk (below_step (by repeat (first | (with_reducible first | exact HB.out | apply below_alloc | apply pw_below_drewN | apply below_drew1) | exact HB.out)) hb); clear HB; have HB := n0_; clear n0_; (try clear hb); (try clear hb2); (try clear hk); (try clear hi)) | (go_at_call 17; (with_reducible refine (fix_MulDivT.calls a0 0 a1 t162 _ A32.out).mono ?_); rintro e w' ⟨rfl, ⟨nd, rfl⟩⟩) | (go_at_call 19; (with_reducible refine (fix_Gain.calls a0 256 t163 _ A34.out).mono ?_); rintro e w' ⟨rfl, ⟨nd, rfl⟩⟩))
                    go_ret
                    exact ⟨by first | rfl | (simp [errW_none, errW_some] <;> rfl) | (simp [*, errW_none, errW_some] <;> rfl), by repeat (first | (with_reducible first | exact HB.out | apply below_alloc | apply pw_below_drewN | apply below_drew1) | exact HB.out)⟩
                · rw [if_neg c33] at H
                  have c33b0 : (t162 == 0) = false := beq_eq_false_iff_ne.mpr c33
                  have c33b1 : (t162 != 0) = true := bne_iff_ne.mpr c33
                  obtain rfl := Option.some.inj H
                  go_wp2_with (first | (go_at_call 17; (with_reducible refine (fix_MulDivT.calls a0 a1 a1 t160 _ A26.out).mono ?_); rintro e w' ⟨rfl, ⟨nd, rfl⟩⟩) | (go_at_call 13; (with_reducible refine (fix_SubT.calls a0 0 t161 _ A30.out).mono ?_); rintro e w40 ⟨rfl, hb⟩; have n0_ := Aside0.mk (below_step (by repeat (first | (with_reducible first | exact HB.out | apply below_alloc | apply pw_below_drewN | apply below_drew1) | exact HB.out)) hb); clear HB; have HB := n0_; clear n0_; (try clear hb); (try clear hb2); (try clear hk); (try clear hi)) | (go_at_call 17; (with_reducible refine (fix_MulDivT.calls a0 0 a1 t162 _ A32.out).mono ?_); rintro e w' ⟨rfl, ⟨nd, rfl⟩⟩))
                  go_ret
                  exact ⟨by first | rfl | (simp [errW_none, errW_some] <;> rfl) | (simp [*, errW_none, errW_some] <;> rfl), by repeat (first | (with_reducible first | exact HB.out | apply below_alloc | apply pw_below_drewN | apply below_drew1) | exact HB.out)⟩
              · rw [if_neg c31] at H
                have c31b0 : (t161 == a0) = false := beq_eq_false_iff_ne.mpr c31
                have c31b1 : (t161 != a0) = true := bne_iff_ne.mpr c31
                obtain rfl := Option.some.inj H
                go_wp2_with (first | (go_at_call 17; (with_reducible refine (fix_MulDivT.calls a0 a1 a1 t160 _ A26.out).mono ?_); rintro e w' ⟨rfl, ⟨nd, rfl⟩⟩) | (go_at_call 13; (with_reducible refine (fix_SubT.calls a0 0 t161 _ A30.out).mono ?_); rintro e w41 ⟨rfl, hb⟩; have n0_ := Aside0.mk (below_step (by repeat (first | (with_reducible first | exact HB.out | apply below_alloc | apply pw_below_drewN | apply below_drew1) | exact HB.out)) hb); clear HB; have HB := n0_; clear n0_; (try clear hb); (try clear hb2); (try clear hk); (try clear hi)))
                go_ret
                exact ⟨by first | rfl | (simp [errW_none, errW_some] <;> rfl) | (simp [*, errW_none, errW_some] <;> rfl), by repeat (first | (with_reducible first | exact HB.out | apply below_alloc | apply pw_below_drewN | apply below_drew1) | exact HB.out)⟩
            · rw [if_neg c29] at H
              have c29b0 : (t160 == a0) = false := beq_eq_false_iff_ne.mpr c29
              have c29b1 : (t160 != a0) = true := bne_iff_ne.mpr c29
              obtain rfl := Option.some.inj H
              go_wp2_with (first | (go_at_call 17; (with_reducible refine (fix_MulDivT.calls a0 a1 a1 t160 _ A26.out).mono ?_); rintro e w' ⟨rfl, ⟨nd, rfl⟩⟩))
              go_ret
              exact ⟨by first | rfl | (simp [errW_none, errW_some] <;> rfl) | (simp [*, errW_none, errW_some] <;> rfl), by repeat (first | (with_reducible first | exact HB.out | apply below_alloc | apply pw_below_drewN | apply below_drew1) | exact HB.out)⟩
          · replace c28 := Bool.eq_false_iff.mpr c28
            subst c28
            have H1 : (some false) = some r := by rw [if_neg (show ¬ (false = true) by decide)] at H; exact H
            clear H
            have H := H1
            clear H1
            obtain rfl := Option.some.inj H
            go_wp2_with (first | (go_at_call 17; (with_reducible refine (fix_MulDivT.calls a0 a1 a1 t160 _ A26.out).mono ?_); rintro e w' ⟨rfl, ⟨nd, rfl⟩⟩))
            go_ret
            exact ⟨by first | rfl | (simp [errW_none, errW_some] <;> rfl) | (simp [*, errW_none, errW_some] <;> rfl), by repeat (first | (with_reducible first | exact HB.out | apply below_alloc | apply pw_below_drewN | apply below_drew1) | exact HB.out)⟩
        · replace c27 := Bool.eq_false_iff.mpr c27
          subst c27
          have H1 : (some false) = some r := by rw [if_neg (show ¬ (false = true) by decide)] at H; exact H
          clear H
          have H := H1
          clear H1
          obtain rfl := Option.some.inj H
          go_wp2_with (first | (go_at_call 17; (with_reducible refine (fix_MulDivT.calls a0 a1 a1 t160 _ A26.out).mono ?_); rintro e w' ⟨rfl, ⟨nd, rfl⟩⟩))
          go_ret
          exact ⟨by first | rfl | (simp [errW_none, errW_some] <;> rfl) | (simp [*, errW_none, errW_some] <;> rfl), by repeat (first | (with_reducible first | exact HB.out | apply below_alloc | apply pw_below_drewN | apply below_drew1) | exact HB.out)⟩

/-- THE ONE PURE STATEMENT of wigwaglaw01_FixUndoes: yours. -/
def wigwaglaw01_FixUndoes.Pure : Prop := ∀ (a0 : Int) (a1 : Int), (Lit.int .u64 a0).wf = true → (Lit.int .u64 a1).wf = true → ∃ k, wigwaglaw01_FixUndoes.f k a0 a1 = some true
theorem wigwaglaw01_FixUndoes.walk (P : wigwaglaw01_FixUndoes.Pure) (a0 : Int) (a1 : Int) (w : World) (w0 : (Lit.int .u64 a0).wf = true) (w1 : (Lit.int .u64 a1).wf = true) :
    Calls Try.prog 6 #[.int .u64 a0, .int .u64 a1] w fun e w' => e = .returned (.bool true) ∧ Below w.heap.size w w' := by
  obtain ⟨k, h⟩ := P a0 a1 w0 w1
  refine (wigwaglaw01_FixUndoes.calls k a0 a1 true w h).mono ?_
  rintro e w' ⟨rfl, hd⟩
  exact ⟨rfl, hd⟩

end Go.Proofs.Ytffanpfimhldhaa.PFix
