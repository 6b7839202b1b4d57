-- Written by a program of this session (wip/tools/xprint.py) for this claim.
import Derived.Test.YtffanpfimhldhaaPFixx0
import Derived.Test.YtffanpfimhldhaaPFixx1
import Derived.Test.YtffanpfimhldhaaPFixx2
namespace Go.Proofs.Ytffanpfimhldhaa.PFix
open Go.RowKit Go.Proofs.YtffanpfimhldhaaW.PrintWords Go.Proofs.YtffanpfimhldhaaW.PrintLast Go.Proofs.YtffanpfimhldhaaW.PrintMore
attribute [local go_sem] max2_int min2_int max_two min_two max_three min_three max_four min_four   -- for this text's walks alone
set_option linter.unusedVariables false
set_option linter.unusedSimpArgs false

/-! ### wigwaglaw01_FixParts: function 7 -/
def wigwaglaw01_FixParts.f (a0 : Int) (a1 : Int) (a2 : Int) : Option (Bool) := (wigwaglaw01_awake.f).bind fun t164 => ((fix_MulDivT.f (IntKind.u64.wrap (a0)) (IntKind.u64.wrap (a1)) a2).bind fun t165 => (if a2 = 0 then (if t164 = true then (some ((t165 == 0) == ((IntKind.u64.wrap ((IntKind.u64.wrap (a0)) * (IntKind.u64.wrap (a1)))) == 0))) else (some false)) else (if t164 = true then (if t165 = (IntKind.u64.wrap (Int.tdiv (IntKind.u64.wrap ((IntKind.u64.wrap (a0)) * (IntKind.u64.wrap (a1)))) a2)) then ((fix_MulT.f (IntKind.u64.wrap (a0)) (IntKind.u64.wrap (a1))).bind fun t166 => (some (t166 == (IntKind.u64.wrap ((IntKind.u64.wrap (a0)) * (IntKind.u64.wrap (a1))))))) else (some false)) else (some false))))
set_option maxHeartbeats 8000000 in
set_option maxRecDepth 100000 in
theorem wigwaglaw01_FixParts.calls (a0 : Int) (a1 : Int) (a2 : Int) (r : Bool) (w : World) (h : wigwaglaw01_FixParts.f a0 a1 a2 = some r) :
    Calls Try.prog 7 #[.int .u32 a0, .int .u32 a1, .int .u64 a2] w fun e w' => e = .returned (.bool r) ∧ Below w.heap.size w w' := by
  have HB := Aside0.mk (Below.refl w.heap.size w)
  have H : ((wigwaglaw01_awake.f).bind fun t164 => ((fix_MulDivT.f (IntKind.u64.wrap (a0)) (IntKind.u64.wrap (a1)) a2).bind fun t165 => (if a2 = 0 then (if t164 = true then (some ((t165 == 0) == ((IntKind.u64.wrap ((IntKind.u64.wrap (a0)) * (IntKind.u64.wrap (a1)))) == 0))) else (some false)) else (if t164 = true then (if t165 = (IntKind.u64.wrap (Int.tdiv (IntKind.u64.wrap ((IntKind.u64.wrap (a0)) * (IntKind.u64.wrap (a1)))) a2)) then ((fix_MulT.f (IntKind.u64.wrap (a0)) (IntKind.u64.wrap (a1))).bind fun t166 => (some (t166 == (IntKind.u64.wrap ((IntKind.u64.wrap (a0)) * (IntKind.u64.wrap (a1))))))) else (some false)) else (some false))))) = some r := h
  clear h
  replace H := Option.bind_eq_some_iff.mp H
  obtain ⟨t164, A40, H⟩ := H
  replace H : ((fix_MulDivT.f (IntKind.u64.wrap (a0)) (IntKind.u64.wrap (a1)) a2).bind fun t165 => (if a2 = 0 then (if t164 = true then (some ((t165 == 0) == ((IntKind.u64.wrap ((IntKind.u64.wrap (a0)) * (IntKind.u64.wrap (a1)))) == 0))) else (some false)) else (if t164 = true then (if t165 = (IntKind.u64.wrap (Int.tdiv (IntKind.u64.wrap ((IntKind.u64.wrap (a0)) * (IntKind.u64.wrap (a1)))) a2)) then ((fix_MulT.f (IntKind.u64.wrap (a0)) (IntKind.u64.wrap (a1))).bind fun t166 => (some (t166 == (IntKind.u64.wrap ((IntKind.u64.wrap (a0)) * (IntKind.u64.wrap (a1))))))) else (some false)) else (some false)))) = some r := H
  have A4 := Aside0.mk A40
  clear A40
  replace H := Option.bind_eq_some_iff.mp H
  obtain ⟨t165, A50, H⟩ := H
  replace H : (if a2 = 0 then (if t164 = true then (some ((t165 == 0) == ((IntKind.u64.wrap ((IntKind.u64.wrap (a0)) * (IntKind.u64.wrap (a1)))) == 0))) else (some false)) else (if t164 = true then (if t165 = (IntKind.u64.wrap (Int.tdiv (IntKind.u64.wrap ((IntKind.u64.wrap (a0)) * (IntKind.u64.wrap (a1)))) a2)) then ((fix_MulT.f (IntKind.u64.wrap (a0)) (IntKind.u64.wrap (a1))).bind fun t166 => (some (t166 == (IntKind.u64.wrap ((IntKind.u64.wrap (a0)) * (IntKind.u64.wrap (a1))))))) else (some false)) else (some false))) = some r := H
  have A5 := Aside0.mk A50
  clear A50
  by_cases c6 : a2 = 0
  · rw [if_pos c6] at H
    have c6b0 : (a2 == 0) = true := beq_iff_eq.mpr c6
    have c6b1 : (a2 != 0) = false := bne_eq_false_iff_eq.mpr c6
    clear c6
    by_cases c7 : t164 = true
    · subst c7
      have H1 : (some ((t165 == 0) == ((IntKind.u64.wrap ((IntKind.u64.wrap (a0)) * (IntKind.u64.wrap (a1)))) == 0))) = some r := by rw [if_pos rfl] at H; exact H
      clear H
      have H := H1
      clear H1
      obtain rfl := Option.some.inj H
      go_enter Try.func7, Try.ntmps7
      go_wp2_with (first | ((with_reducible refine gate_callee (f := 10) rfl ?_); refine goesL_ (some 10) rfl rfl Try.func10 (by kernel_rfl) rfl #[] rfl (by (try simp only [List.map_toArray, List.map_cons, List.map_nil]); first | done | rfl | (simp only [List.length_drop, List.length_take]; rfl)) ?_; (with_reducible refine (wigwaglaw01_awake.calls  true _ A4.out).mono ?_); rintro e w8 ⟨rfl, hb⟩; refine ⟨_, rfl, ?_⟩; have n0_ := Aside0.mk (below_step (by repeat (first | (with_reducible first | exact HB.out | apply below_alloc | apply pw_below_drewN | apply below_drew1) | exact HB.out)) hb); clear HB; have HB := n0_; clear n0_; (try clear hb); (try clear hb2); (try clear hk); (try clear hi)) | ((with_reducible refine gate_callee (f := 17) rfl ?_); refine goesL_ (some 21) rfl rfl Try.func17 (by kernel_rfl) rfl #[.int .u64 (IntKind.u64.wrap (a0)), .int .u64 (IntKind.u64.wrap (a1)), .int .u64 a2] rfl (by (try simp only [List.map_toArray, List.map_cons, List.map_nil]); first | done | rfl | (simp only [List.length_drop, List.length_take]; rfl)) ?_; (with_reducible refine (fix_MulDivT.calls (IntKind.u64.wrap (a0)) (IntKind.u64.wrap (a1)) a2 t165 _ A5.out).mono ?_); rintro e w' ⟨rfl, ⟨nd, rfl⟩⟩; refine ⟨_, rfl, ?_⟩))
      go_ret
      exact ⟨by first | rfl | (simp [errW_none, errW_some] <;> rfl) | (simp [*, errW_none, errW_some] <;> rfl), by repeat (first | (with_reducible first | exact HB.out | apply below_alloc | apply pw_below_drewN | apply below_drew1) | exact HB.out)⟩
    · replace c7 := Bool.eq_false_iff.mpr c7
      subst c7
      have H1 : (some false) = some r := by rw [if_neg (show ¬ (false = true) by decide)] at H; exact H
      clear H
      have H := H1
      clear H1
      obtain rfl := Option.some.inj H
      go_enter Try.func7, Try.ntmps7
      go_wp2_with (first | ((with_reducible refine gate_callee (f := 10) rfl ?_); refine goesL_ (some 10) rfl rfl Try.func10 (by kernel_rfl) rfl #[] rfl (by (try simp only [List.map_toArray, List.map_cons, List.map_nil]); first | done | rfl | (simp only [List.length_drop, List.length_take]; rfl)) ?_; (with_reducible refine (wigwaglaw01_awake.calls  false _ A4.out).mono ?_); rintro e w9 ⟨rfl, hb⟩; refine ⟨_, rfl, ?_⟩; have n0_ := Aside0.mk (below_step (by repeat (first | (with_reducible first | exact HB.out | apply below_alloc | apply pw_below_drewN | apply below_drew1) | exact HB.out)) hb); clear HB; have HB := n0_; clear n0_; (try clear hb); (try clear hb2); (try clear hk); (try clear hi)) | ((with_reducible refine gate_callee (f := 17) rfl ?_); refine goesL_ (some 21) rfl rfl Try.func17 (by kernel_rfl) rfl #[.int .u64 (IntKind.u64.wrap (a0)), .int .u64 (IntKind.u64.wrap (a1)), .int .u64 a2] rfl (by (try simp only [List.map_toArray, List.map_cons, List.map_nil]); first | done | rfl | (simp only [List.length_drop, List.length_take]; rfl)) ?_; (with_reducible refine (fix_MulDivT.calls (IntKind.u64.wrap (a0)) (IntKind.u64.wrap (a1)) a2 t165 _ A5.out).mono ?_); rintro e w' ⟨rfl, ⟨nd, rfl⟩⟩; refine ⟨_, rfl, ?_⟩))
      go_ret
      exact ⟨by first | rfl | (simp [errW_none, errW_some] <;> rfl) | (simp [*, errW_none, errW_some] <;> rfl), by repeat (first | (with_reducible first | exact HB.out | apply below_alloc | apply pw_below_drewN | apply below_drew1) | exact HB.out)⟩
  · rw [if_neg c6] at H
    have c6b0 : (a2 == 0) = false := beq_eq_false_iff_ne.mpr c6
    have c6b1 : (a2 != 0) = true := bne_iff_ne.mpr c6
    by_cases c10 : t164 = true
    · subst c10
      have H1 : (if t165 = (IntKind.u64.wrap (Int.tdiv (IntKind.u64.wrap ((IntKind.u64.wrap (a0)) * (IntKind.u64.wrap (a1)))) a2)) then ((fix_MulT.f (IntKind.u64.wrap (a0)) (IntKind.u64.wrap (a1))).bind fun t166 => (some (t166 == (IntKind.u64.wrap ((IntKind.u64.wrap (a0)) * (IntKind.u64.wrap (a1))))))) else (some false)) = some r := by rw [if_pos rfl] at H; exact H
      clear H
      have H := H1
      clear H1
      by_cases c11 : t165 = (IntKind.u64.wrap (Int.tdiv (IntKind.u64.wrap ((IntKind.u64.wrap (a0)) * (IntKind.u64.wrap (a1)))) a2))
      · rw [if_pos c11] at H
        have c11b0 : (t165 == (IntKind.u64.wrap (Int.tdiv (IntKind.u64.wrap ((IntKind.u64.wrap (a0)) * (IntKind.u64.wrap (a1)))) a2))) = true := beq_iff_eq.mpr c11
        have c11b1 : (t165 != (IntKind.u64.wrap (Int.tdiv (IntKind.u64.wrap ((IntKind.u64.wrap (a0)) * (IntKind.u64.wrap (a1)))) a2))) = false := bne_eq_false_iff_eq.mpr c11
        clear c11
        replace H := Option.bind_eq_some_iff.mp H
        obtain ⟨t166, A120, H⟩ := H
        replace H : (some (t166 == (IntKind.u64.wrap ((IntKind.u64.wrap (a0)) * (IntKind.u64.wrap (a1)))))) = some r := H
        have A12 := Aside0.mk A120
        clear A120
        obtain rfl := Option.some.inj H
        go_enter Try.func7, Try.ntmps7
        go_wp2_with (first | ((with_reducible refine gate_callee (f := 10) rfl ?_); refine goesL_ (some 10) rfl rfl Try.func10 (by kernel_rfl) rfl #[] rfl (by (try simp only [List.map_toArray, List.map_cons, List.map_nil]); first | done | rfl | (simp only [List.length_drop, List.length_take]; rfl)) ?_; (with_reducible refine (wigwaglaw01_awake.calls  true _ A4.out).mono ?_); rintro e w13 ⟨rfl, hb⟩; refine ⟨_, rfl, ?_⟩; have n0_ := Aside0.mk (below_step (by repeat (first | (with_reducible first | exact HB.out | apply below_alloc | apply pw_below_drewN | apply below_drew1) | exact HB.out)) hb); clear HB; have HB := n0_; clear n0_; (try clear hb); (try clear hb2); (try clear hk); (try clear hi)) | ((with_reducible refine gate_callee (f := 17) rfl ?_); refine goesL_ (some 21) rfl rfl Try.func17 (by kernel_rfl) rfl #[.int .u64 (IntKind.u64.wrap (a0)), .int .u64 (IntKind.u64.wrap (a1)), .int .u64 a2] rfl (by (try simp only [List.map_toArray, List.map_cons, List.map_nil]); first | done | rfl | (simp only [List.length_drop, List.length_take]; rfl)) ?_; (with_reducible refine (fix_MulDivT.calls (IntKind.u64.wrap (a0)) (IntKind.u64.wrap (a1)) a2 t165 _ A5.out).mono ?_); rintro e w' ⟨rfl, ⟨nd, rfl⟩⟩; refine ⟨_, rfl, ?_⟩) | (go_at_call 15; (with_reducible refine (fix_MulT.calls (IntKind.u64.wrap (a0)) (IntKind.u64.wrap (a1)) t166 _ A12.out).mono ?_); rintro e w' ⟨rfl, ⟨nd, rfl⟩⟩))
        go_ret
        exact ⟨by first | rfl | (simp [errW_none, errW_some] <;> rfl) | (simp [*, errW_none, errW_some] <;> rfl), by repeat (first | (with_reducible first | exact HB.out | apply below_alloc | apply pw_below_drewN | apply below_drew1) | exact HB.out)⟩
      · rw [if_neg c11] at H
        have c11b0 : (t165 == (IntKind.u64.wrap (Int.tdiv (IntKind.u64.wrap ((IntKind.u64.wrap (a0)) * (IntKind.u64.wrap (a1)))) a2))) = false := beq_eq_false_iff_ne.mpr c11
        have c11b1 : (t165 != (IntKind.u64.wrap (Int.tdiv (IntKind.u64.wrap ((IntKind.u64.wrap (a0)) * (IntKind.u64.wrap (a1)))) a2))) = true := bne_iff_ne.mpr c11
        obtain rfl := Option.some.inj H
        go_enter Try.func7, Try.ntmps7
        go_wp2_with (first | ((with_reducible refine gate_callee (f := 10) rfl ?_); refine goesL_ (some 10) rfl rfl Try.func10 (by kernel_rfl) rfl #[] rfl (by (try simp only [List.map_toArray, List.map_cons, List.map_nil]); first | done | rfl | (simp only [List.length_drop, List.length_take]; rfl)) ?_; (with_reducible refine (wigwaglaw01_awake.calls  true _ A4.out).mono ?_); rintro e w14 ⟨rfl, hb⟩; refine ⟨_, rfl, ?_⟩; have n0_ := Aside0.mk (below_step (by repeat (first | (with_reducible first | exact HB.out | apply below_alloc | apply pw_below_drewN | apply below_drew1) | exact HB.out)) hb); clear HB; have HB := n0_; clear n0_; (try clear hb); (try clear hb2); (try clear hk); (try clear hi)) | ((with_reducible refine gate_callee (f := 17) rfl ?_); refine goesL_ (some 21) rfl rfl Try.func17 (by kernel_rfl) rfl #[.int .u64 (IntKind.u64.wrap (a0)), .int .u64 (IntKind.u64.wrap (a1)), .int .u64 a2] rfl (by (try simp only [List.map_toArray, List.map_cons, List.map_nil]); first | done | rfl | (simp only [List.length_drop, List.length_take]; rfl)) ?_; (with_reducible refine (fix_MulDivT.calls (IntKind.u64.wrap (a0)) (IntKind.u64.wrap (a1)) a2 t165 _ A5.out).mono ?_); rintro e w' ⟨rfl, ⟨nd, rfl⟩⟩; refine ⟨_, rfl, ?_⟩))
        go_ret
        exact ⟨by first | rfl | (simp [errW_none, errW_some] <;> rfl) | (simp [*, errW_none, errW_some] <;> rfl), by repeat (first | (with_reducible first | exact HB.out | apply below_alloc | apply pw_below_drewN | apply below_drew1) | exact HB.out)⟩
    · replace c10 := Bool.eq_false_iff.mpr c10
      subst c10
      have H1 : (some false) = some r := by rw [if_neg (show ¬ (false = true) by decide)] at H; exact H
      clear H
      have H := H1
      clear H1
      obtain rfl := Option.some.inj H
      go_enter Try.func7, Try.ntmps7
      go_wp2_with (first | ((with_reducible refine gate_callee (f := 10) rfl ?_); refine goesL_ (some 10) rfl rfl Try.func10 (by kernel_rfl) rfl #[] rfl (by (try simp only [List.map_toArray, List.map_cons, List.map_nil]); first | done | rfl | (simp only [List.length_drop, List.length_take]; rfl)) ?_; (with_reducible refine (wigwaglaw01_awake.calls  false _ A4.out).mono ?_); rintro e w15 ⟨rfl, hb⟩; refine ⟨_, rfl, ?_⟩; have n0_ := Aside0.mk (below_step (by repeat (first | (with_reducible first | exact HB.out | apply below_alloc | apply pw_below_drewN | apply below_drew1) | exact HB.out)) hb); clear HB; have HB := n0_; clear n0_; (try clear hb); (try clear hb2); (try clear hk); (try clear hi)) | ((with_reducible refine gate_callee (f := 17) rfl ?_); refine goesL_ (some 21) rfl rfl Try.func17 (by kernel_rfl) rfl #[.int .u64 (IntKind.u64.wrap (a0)), .int .u64 (IntKind.u64.wrap (a1)), .int .u64 a2] rfl (by (try simp only [List.map_toArray, List.map_cons, List.map_nil]); first | done | rfl | (simp only [List.length_drop, List.length_take]; rfl)) ?_; (with_reducible refine (fix_MulDivT.calls (IntKind.u64.wrap (a0)) (IntKind.u64.wrap (a1)) a2 t165 _ A5.out).mono ?_); rintro e w' ⟨rfl, ⟨nd, rfl⟩⟩; refine ⟨_, rfl, ?_⟩))
      go_ret
      exact ⟨by first | rfl | (simp [errW_none, errW_some] <;> rfl) | (simp [*, errW_none, errW_some] <;> rfl), by repeat (first | (with_reducible first | exact HB.out | apply below_alloc | apply pw_below_drewN | apply below_drew1) | exact HB.out)⟩

/-- THE ONE PURE STATEMENT of wigwaglaw01_FixParts: yours. -/
def wigwaglaw01_FixParts.Pure : Prop := ∀ (a0 : Int) (a1 : Int) (a2 : Int), (Lit.int .u32 a0).wf = true → (Lit.int .u32 a1).wf = true → (Lit.int .u64 a2).wf = true → wigwaglaw01_FixParts.f a0 a1 a2 = some true
theorem wigwaglaw01_FixParts.walk (P : wigwaglaw01_FixParts.Pure) (a0 : Int) (a1 : Int) (a2 : Int) (w : World) (w0 : (Lit.int .u32 a0).wf = true) (w1 : (Lit.int .u32 a1).wf = true) (w2 : (Lit.int .u64 a2).wf = true) :
    Calls Try.prog 7 #[.int .u32 a0, .int .u32 a1, .int .u64 a2] w fun e w' => e = .returned (.bool true) ∧ Below w.heap.size w w' := by
  have h := P a0 a1 a2 w0 w1 w2
  refine (wigwaglaw01_FixParts.calls a0 a1 a2 true w h).mono ?_
  rintro e w' ⟨rfl, hd⟩
  exact ⟨rfl, hd⟩

/-! ### wigwaglaw01_FixBrackets: function 8 -/
def wigwaglaw01_FixBrackets.j0 : Nat → Int → Int → Int → Bool → Bool → Option (Bool)
  | 0, _, _, _, _, _ => none
  | k + 1, x0, x1, x2, x7, x8 => if x7 = true then (if x8 = true then ((fix_SubT.f x0 x1).bind fun t176 => ((fix_SubT.f t176 x2).bind fun t177 => ((fix_Add.f x1 x2).bind fun t178 => ((fix_SubT.f x0 t178).bind fun t179 => (if t177 = t179 then ((fix_Gain.f x0 0).bind fun t180 => (if t180 = 0 then ((fix_Gain.f x0 512).bind fun t181 => ((fix_MulT.f x0 2).bind fun t182 => (some (t181 == t182)))) else (some false))) else (some false)))))) else (some false)) else (some false)
def wigwaglaw01_FixBrackets.f (k : Nat) (a0 : Int) (a1 : Int) (a2 : Int) : Option (Bool) := (wigwaglaw01_awake.f).bind fun t167 => ((fix_Add.f a0 a1).bind fun t168 => ((fix_Add.f t168 a2).bind fun t169 => ((fix_Add.f a1 a2).bind fun t170 => ((fix_Add.f a0 t170).bind fun t171 => (if t169 = t171 then ((fix_MulT.f a0 a1).bind fun t172 => ((fix_MulT.f t172 a2).bind fun t173 => ((fix_MulT.f a1 a2).bind fun t174 => ((fix_MulT.f a0 t174).bind fun t175 => (wigwaglaw01_FixBrackets.j0 k a0 a1 a2 t167 (t173 == t175)))))) else (wigwaglaw01_FixBrackets.j0 k a0 a1 a2 t167 false))))))
theorem wigwaglaw01_FixBrackets.mono_l : ∀ k, (∀ y0 y1 y2 y3 y4, LeO (wigwaglaw01_FixBrackets.j0 k y0 y1 y2 y3 y4) (wigwaglaw01_FixBrackets.j0 (k + 1) y0 y1 y2 y3 y4))
  | 0 => fun _ _ _ _ _ r h => by simp [wigwaglaw01_FixBrackets.j0] at h
  | k + 1 => by
    have ih0 := wigwaglaw01_FixBrackets.mono_l k
    · intro y0 y1 y2 y3 y4
      unfold wigwaglaw01_FixBrackets.j0
      repeat' first
      | (with_reducible exact ih0 _ _ _ _ _)
      | (with_reducible exact LeO.refl _)
      | (with_reducible exact LeO.none _)
      | (with_reducible refine LeO.ite ?_ ?_)
      | (with_reducible refine LeO.bind ?_ (fun _ => ?_))
      | exact ih0 _ _ _ _ _
      | exact LeO.none _
      | refine LeO.ite ?_ ?_
      | refine LeO.bind ?_ (fun _ => ?_)
theorem wigwaglaw01_FixBrackets.mono : ∀ a0 a1 a2 k, LeO (wigwaglaw01_FixBrackets.f k a0 a1 a2) (wigwaglaw01_FixBrackets.f (k + 1) a0 a1 a2) := by
  intro a0 a1 a2 k
  have ih0 := wigwaglaw01_FixBrackets.mono_l k
  unfold wigwaglaw01_FixBrackets.f
  repeat' first
      | (with_reducible exact ih0 _ _ _ _ _)
      | (with_reducible exact LeO.refl _)
      | (with_reducible exact LeO.none _)
      | (with_reducible refine LeO.ite ?_ ?_)
      | (with_reducible refine LeO.bind ?_ (fun _ => ?_))
      | exact ih0 _ _ _ _ _
      | exact LeO.none _
      | refine LeO.ite ?_ ?_
      | refine LeO.bind ?_ (fun _ => ?_)
set_option maxHeartbeats 8000000 in
set_option maxRecDepth 100000 in
theorem wigwaglaw01_FixBrackets.calls (k : Nat) (a0 : Int) (a1 : Int) (a2 : Int) (r : Bool) (w : World) (h : wigwaglaw01_FixBrackets.f k a0 a1 a2 = some r) :
    Calls Try.prog 8 #[.int .u64 a0, .int .u64 a1, .int .u64 a2] w fun e w' => e = .returned (.bool r) ∧ Below w.heap.size w w' := by
  have HB := Aside0.mk (Below.refl w.heap.size w)
  have H : ((wigwaglaw01_awake.f).bind fun t167 => ((fix_Add.f a0 a1).bind fun t168 => ((fix_Add.f t168 a2).bind fun t169 => ((fix_Add.f a1 a2).bind fun t170 => ((fix_Add.f a0 t170).bind fun t171 => (if t169 = t171 then ((fix_MulT.f a0 a1).bind fun t172 => ((fix_MulT.f t172 a2).bind fun t173 => ((fix_MulT.f a1 a2).bind fun t174 => ((fix_MulT.f a0 t174).bind fun t175 => (wigwaglaw01_FixBrackets.j0 k a0 a1 a2 t167 (t173 == t175)))))) else (wigwaglaw01_FixBrackets.j0 k a0 a1 a2 t167 false))))))) = some r := h
  clear h
  replace H := Option.bind_eq_some_iff.mp H
  obtain ⟨t167, A40, H⟩ := H
  replace H : ((fix_Add.f a0 a1).bind fun t168 => ((fix_Add.f t168 a2).bind fun t169 => ((fix_Add.f a1 a2).bind fun t170 => ((fix_Add.f a0 t170).bind fun t171 => (if t169 = t171 then ((fix_MulT.f a0 a1).bind fun t172 => ((fix_MulT.f t172 a2).bind fun t173 => ((fix_MulT.f a1 a2).bind fun t174 => ((fix_MulT.f a0 t174).bind fun t175 => (wigwaglaw01_FixBrackets.j0 k a0 a1 a2 t167 (t173 == t175)))))) else (wigwaglaw01_FixBrackets.j0 k a0 a1 a2 t167 false)))))) = some r := H
  have A4 := Aside0.mk A40
  clear A40
  have HC5 := Aside0.mk H
  clear H
  go_enter Try.func8, Try.ntmps8
  go_upto_region 2 with (first | ((with_reducible refine gate_callee (f := 10) rfl ?_); refine goesL_ (some 9) rfl rfl Try.func10 (by kernel_rfl) rfl #[] rfl (by (try simp only [List.map_toArray, List.map_cons, List.map_nil]); first | done | rfl | (simp only [List.length_drop, List.length_take]; rfl)) ?_; (with_reducible refine (wigwaglaw01_awake.calls  t167 _ A4.out).mono ?_); rintro e w6 ⟨rfl, hb⟩; refine ⟨_, rfl, ?_⟩; have n0_ := Aside0.mk (below_step (by repeat (first | (with_reducible first | exact HB.out | apply below_alloc | apply pw_below_drewN | apply below_drew1) | exact HB.out)) hb); clear HB; have HB := n0_; clear n0_; (try clear hb); (try clear hb2); (try clear hk); (try clear hi)))
  (try simp only [Act.put, List.setIfInBounds_toArray, List.set_cons_zero, List.set_cons_succ])
  go_cut [8] (fun v8 wc => ∃ (kq : Nat) (x8_4 : Bool), v8 = .bool x8_4 ∧ Aside0 (wigwaglaw01_FixBrackets.j0 kq a0 a1 a2 t167 x8_4 = some r) ∧ Aside0 (kq ≤ k) ∧ Aside0 (Below w.heap.size w wc))
  case first =>
    have H := HC5.out
    clear HC5
    replace H := Option.bind_eq_some_iff.mp H
    obtain ⟨t168, A70, H⟩ := H
    replace H : ((fix_Add.f t168 a2).bind fun t169 => ((fix_Add.f a1 a2).bind fun t170 => ((fix_Add.f a0 t170).bind fun t171 => (if t169 = t171 then ((fix_MulT.f a0 a1).bind fun t172 => ((fix_MulT.f t172 a2).bind fun t173 => ((fix_MulT.f a1 a2).bind fun t174 => ((fix_MulT.f a0 t174).bind fun t175 => (wigwaglaw01_FixBrackets.j0 k a0 a1 a2 t167 (t173 == t175)))))) else (wigwaglaw01_FixBrackets.j0 k a0 a1 a2 t167 false))))) = some r := H
    have A7 := Aside0.mk A70
    clear A70
    replace H := Option.bind_eq_some_iff.mp H
    obtain ⟨t169, A80, H⟩ := H
    replace H : ((fix_Add.f a1 a2).bind fun t170 => ((fix_Add.f a0 t170).bind fun t171 => (if t169 = t171 then ((fix_MulT.f a0 a1).bind fun t172 => ((fix_MulT.f t172 a2).bind fun t173 => ((fix_MulT.f a1 a2).bind fun t174 => ((fix_MulT.f a0 t174).bind fun t175 => (wigwaglaw01_FixBrackets.j0 k a0 a1 a2 t167 (t173 == t175)))))) else (wigwaglaw01_FixBrackets.j0 k a0 a1 a2 t167 false)))) = some r := H
    have A8 := Aside0.mk A80
    clear A80
    replace H := Option.bind_eq_some_iff.mp H
    obtain ⟨t170, A90, H⟩ := H
    replace H : ((fix_Add.f a0 t170).bind fun t171 => (if t169 = t171 then ((fix_MulT.f a0 a1).bind fun t172 => ((fix_MulT.f t172 a2).bind fun t173 => ((fix_MulT.f a1 a2).bind fun t174 => ((fix_MulT.f a0 t174).bind fun t175 => (wigwaglaw01_FixBrackets.j0 k a0 a1 a2 t167 (t173 == t175)))))) else (wigwaglaw01_FixBrackets.j0 k a0 a1 a2 t167 false))) = some r := H
    have A9 := Aside0.mk A90
    clear A90
    replace H := Option.bind_eq_some_iff.mp H
    obtain ⟨t171, A100, H⟩ := H
    replace H : (if t169 = t171 then ((fix_MulT.f a0 a1).bind fun t172 => ((fix_MulT.f t172 a2).bind fun t173 => ((fix_MulT.f a1 a2).bind fun t174 => ((fix_MulT.f a0 t174).bind fun t175 => (wigwaglaw01_FixBrackets.j0 k a0 a1 a2 t167 (t173 == t175)))))) else (wigwaglaw01_FixBrackets.j0 k a0 a1 a2 t167 false)) = some r := H
    have A10 := Aside0.mk A100
    clear A100
    by_cases c11 : t169 = t171
    · rw [if_pos c11] at H
      have c11b0 : (t169 == t171) = true := beq_iff_eq.mpr c11
      have c11b1 : (t169 != t171) = false := bne_eq_false_iff_eq.mpr c11
      clear c11
      (first | rw [c11b0] | (simp only [i64_w, i32_w]; rw [c11b0]) | skip)
      replace H := Option.bind_eq_some_iff.mp H
      obtain ⟨t172, A120, H⟩ := H
      replace H : ((fix_MulT.f t172 a2).bind fun t173 => ((fix_MulT.f a1 a2).bind fun t174 => ((fix_MulT.f a0 t174).bind fun t175 => (wigwaglaw01_FixBrackets.j0 k a0 a1 a2 t167 (t173 == t175))))) = some r := H
      have A12 := Aside0.mk A120
      clear A120
      replace H := Option.bind_eq_some_iff.mp H
      obtain ⟨t173, A130, H⟩ := H
      replace H : ((fix_MulT.f a1 a2).bind fun t174 => ((fix_MulT.f a0 t174).bind fun t175 => (wigwaglaw01_FixBrackets.j0 k a0 a1 a2 t167 (t173 == t175)))) = some r := H
      have A13 := Aside0.mk A130
      clear A130
      replace H := Option.bind_eq_some_iff.mp H
      obtain ⟨t174, A140, H⟩ := H
      replace H : ((fix_MulT.f a0 t174).bind fun t175 => (wigwaglaw01_FixBrackets.j0 k a0 a1 a2 t167 (t173 == t175))) = some r := H
      have A14 := Aside0.mk A140
      clear A140
      replace H := Option.bind_eq_some_iff.mp H
      obtain ⟨t175, A150, H⟩ := H
      replace H : (wigwaglaw01_FixBrackets.j0 k a0 a1 a2 t167 (t173 == t175)) = some r := H
      have A15 := Aside0.mk A150
      clear A150
      have H' := Aside0.mk H
      clear H
      go_wp2_with (first | ((with_reducible refine gate_callee (f := 11) rfl ?_); refine goesL_ (some 12) rfl rfl Try.func11 (by kernel_rfl) rfl #[.int .u64 a0, .int .u64 a1] rfl (by (try simp only [List.map_toArray, List.map_cons, List.map_nil]); first | done | rfl | (simp only [List.length_drop, List.length_take]; rfl)) ?_; (with_reducible refine (fix_Add.calls a0 a1 t168 _ A7.out).mono ?_); rintro e w' ⟨rfl, ⟨nd, rfl⟩⟩; refine ⟨_, rfl, ?_⟩) | ((with_reducible refine gate_callee (f := 11) rfl ?_); refine goesL_ (some 14) rfl rfl Try.func11 (by kernel_rfl) rfl #[.int .u64 t168, .int .u64 a2] rfl (by (try simp only [List.map_toArray, List.map_cons, List.map_nil]); first | done | rfl | (simp only [List.length_drop, List.length_take]; rfl)) ?_; (with_reducible refine (fix_Add.calls t168 a2 t169 _ A8.out).mono ?_); rintro e w' ⟨rfl, ⟨nd, rfl⟩⟩; refine ⟨_, rfl, ?_⟩) | ((with_reducible refine gate_callee (f := 11) rfl ?_); refine goesL_ (some 18) rfl rfl Try.func11 (by kernel_rfl) rfl #[.int .u64 a1, .int .u64 a2] rfl (by (try simp only [List.map_toArray, List.map_cons, List.map_nil]); first | done | rfl | (simp only [List.length_drop, List.length_take]; rfl)) ?_; (with_reducible refine (fix_Add.calls a1 a2 t170 _ A9.out).mono ?_); rintro e w' ⟨rfl, ⟨nd, rfl⟩⟩; refine ⟨_, rfl, ?_⟩) | ((with_reducible refine gate_callee (f := 11) rfl ?_); refine goesL_ (some 19) rfl rfl Try.func11 (by kernel_rfl) rfl #[.int .u64 a0, .int .u64 t170] rfl (by (try simp only [List.map_toArray, List.map_cons, List.map_nil]); first | done | rfl | (simp only [List.length_drop, List.length_take]; rfl)) ?_; (with_reducible refine (fix_Add.calls a0 t170 t171 _ A10.out).mono ?_); rintro e w' ⟨rfl, ⟨nd, rfl⟩⟩; refine ⟨_, rfl, ?_⟩) | (go_at_call 15; (with_reducible refine (fix_MulT.calls a0 a1 t172 _ A12.out).mono ?_); rintro e w' ⟨rfl, ⟨nd, rfl⟩⟩) | (go_at_call 15; (with_reducible refine (fix_MulT.calls t172 a2 t173 _ A13.out).mono ?_); rintro e w' ⟨rfl, ⟨nd, rfl⟩⟩) | (go_at_call 15; (with_reducible refine (fix_MulT.calls a1 a2 t174 _ A14.out).mono ?_); rintro e w' ⟨rfl, ⟨nd, rfl⟩⟩) | (go_at_call 15; (with_reducible refine (fix_MulT.calls a0 t174 t175 _ A15.out).mono ?_); rintro e w' ⟨rfl, ⟨nd, rfl⟩⟩))
      go_meet
      case rel => exact ⟨_, ((t173 == t175)), (by first | rfl | (simp; done) | (simp [*]; done)), H', ⟨by first | omega | exact Nat.le_refl _⟩, ⟨by repeat (first | (with_reducible first | exact HB.out | apply below_alloc | apply pw_below_drewN | apply below_drew1) | exact HB.out)⟩⟩
    · rw [if_neg c11] at H
      have c11b0 : (t169 == t171) = false := beq_eq_false_iff_ne.mpr c11
      have c11b1 : (t169 != t171) = true := bne_iff_ne.mpr c11
      (first | rw [c11b0] | (simp only [i64_w, i32_w]; rw [c11b0]) | skip)
      have H' := Aside0.mk H
      clear H
      go_wp2_with (first | ((with_reducible refine gate_callee (f := 11) rfl ?_); refine goesL_ (some 12) rfl rfl Try.func11 (by kernel_rfl) rfl #[.int .u64 a0, .int .u64 a1] rfl (by (try simp only [List.map_toArray, List.map_cons, List.map_nil]); first | done | rfl | (simp only [List.length_drop, List.length_take]; rfl)) ?_; (with_reducible refine (fix_Add.calls a0 a1 t168 _ A7.out).mono ?_); rintro e w' ⟨rfl, ⟨nd, rfl⟩⟩; refine ⟨_, rfl, ?_⟩) | ((with_reducible refine gate_callee (f := 11) rfl ?_); refine goesL_ (some 14) rfl rfl Try.func11 (by kernel_rfl) rfl #[.int .u64 t168, .int .u64 a2] rfl (by (try simp only [List.map_toArray, List.map_cons, List.map_nil]); first | done | rfl | (simp only [List.length_drop, List.length_take]; rfl)) ?_; (with_reducible refine (fix_Add.calls t168 a2 t169 _ A8.out).mono ?_); rintro e w' ⟨rfl, ⟨nd, rfl⟩⟩; refine ⟨_, rfl, ?_⟩) | ((with_reducible refine gate_callee (f := 11) rfl ?_); refine goesL_ (some 18) rfl rfl Try.func11 (by kernel_rfl) rfl #[.int .u64 a1, .int .u64 a2] rfl (by (try simp only [List.map_toArray, List.map_cons, List.map_nil]); first | done | rfl | (simp only [List.length_drop, List.length_take]; rfl)) ?_; (with_reducible refine (fix_Add.calls a1 a2 t170 _ A9.out).mono ?_); rintro e w' ⟨rfl, ⟨nd, rfl⟩⟩; refine ⟨_, rfl, ?_⟩) | ((with_reducible refine gate_callee (f := 11) rfl ?_); refine goesL_ (some 19) rfl rfl Try.func11 (by kernel_rfl) rfl #[.int .u64 a0, .int .u64 t170] rfl (by (try simp only [List.map_toArray, List.map_cons, List.map_nil]); first | done | rfl | (simp only [List.length_drop, List.length_take]; rfl)) ?_; (with_reducible refine (fix_Add.calls a0 t170 t171 _ A10.out).mono ?_); rintro e w' ⟨rfl, ⟨nd, rfl⟩⟩; refine ⟨_, rfl, ?_⟩))
      go_meet
      case rel => exact ⟨_, (false), (by first | rfl | (simp; done) | (simp [*]; done)), H', ⟨by first | omega | exact Nat.le_refl _⟩, ⟨by repeat (first | (with_reducible first | exact HB.out | apply below_alloc | apply pw_below_drewN | apply below_drew1) | exact HB.out)⟩⟩
  case rest =>
    clear HC5
    try clear c1
    try clear p2
    try clear c8
    try clear c10
    try clear c11
    try clear c11b0
    try clear c11b1
    obtain ⟨kq, x8_4, rfl, HA, HJ4, HB⟩ := hcut
    cases kq with
    | zero => exact absurd HA.out (by simp [wigwaglaw01_FixBrackets.j0])
    | succ kj4 =>
      have H := HA.out
      clear HA
      simp only [wigwaglaw01_FixBrackets.j0] at H
      by_cases c16 : t167 = true
      · subst c16
        have H1 : (if x8_4 = true then ((fix_SubT.f a0 a1).bind fun t176 => ((fix_SubT.f t176 a2).bind fun t177 => ((fix_Add.f a1 a2).bind fun t178 => ((fix_SubT.f a0 t178).bind fun t179 => (if t177 = t179 then ((fix_Gain.f a0 0).bind fun t180 => (if t180 = 0 then ((fix_Gain.f a0 512).bind fun t181 => ((fix_MulT.f a0 2).bind fun t182 => (some (t181 == t182)))) else (some false))) else (some false)))))) else (some false)) = some r := by rw [if_pos rfl] at H; exact H
        clear H
        have H := H1
        clear H1
        by_cases c17 : x8_4 = true
        · subst c17
          have H1 : ((fix_SubT.f a0 a1).bind fun t176 => ((fix_SubT.f t176 a2).bind fun t177 => ((fix_Add.f a1 a2).bind fun t178 => ((fix_SubT.f a0 t178).bind fun t179 => (if t177 = t179 then ((fix_Gain.f a0 0).bind fun t180 => (if t180 = 0 then ((fix_Gain.f a0 512).bind fun t181 => ((fix_MulT.f a0 2).bind fun t182 => (some (t181 == t182)))) else (some false))) else (some false)))))) = some r := by rw [if_pos rfl] at H; exact H
          clear H
          have H := H1
          clear H1
          replace H := Option.bind_eq_some_iff.mp H
          obtain ⟨t176, A180, H⟩ := H
          replace H : ((fix_SubT.f t176 a2).bind fun t177 => ((fix_Add.f a1 a2).bind fun t178 => ((fix_SubT.f a0 t178).bind fun t179 => (if t177 = t179 then ((fix_Gain.f a0 0).bind fun t180 => (if t180 = 0 then ((fix_Gain.f a0 512).bind fun t181 => ((fix_MulT.f a0 2).bind fun t182 => (some (t181 == t182)))) else (some false))) else (some false))))) = some r := H
          have A18 := Aside0.mk A180
          clear A180
          replace H := Option.bind_eq_some_iff.mp H
          obtain ⟨t177, A190, H⟩ := H
          replace H : ((fix_Add.f a1 a2).bind fun t178 => ((fix_SubT.f a0 t178).bind fun t179 => (if t177 = t179 then ((fix_Gain.f a0 0).bind fun t180 => (if t180 = 0 then ((fix_Gain.f a0 512).bind fun t181 => ((fix_MulT.f a0 2).bind fun t182 => (some (t181 == t182)))) else (some false))) else (some false)))) = some r := H
          have A19 := Aside0.mk A190
          clear A190
          replace H := Option.bind_eq_some_iff.mp H
          obtain ⟨t178, A200, H⟩ := H
          replace H : ((fix_SubT.f a0 t178).bind fun t179 => (if t177 = t179 then ((fix_Gain.f a0 0).bind fun t180 => (if t180 = 0 then ((fix_Gain.f a0 512).bind fun t181 => ((fix_MulT.f a0 2).bind fun t182 => (some (t181 == t182)))) else (some false))) else (some false))) = some r := H
          have A20 := Aside0.mk A200
          clear A200
          replace H := Option.bind_eq_some_iff.mp H
          obtain ⟨t179, A210, H⟩ := H
          replace H : (if t177 = t179 then ((fix_Gain.f a0 0).bind fun t180 => (if t180 = 0 then ((fix_Gain.f a0 512).bind fun t181 => ((fix_MulT.f a0 2).bind fun t182 => (some (t181 == t182)))) else (some false))) else (some false)) = some r := H
          have A21 := Aside0.mk A210
          clear A210
          by_cases c22 : t177 = t179
          · rw [if_pos c22] at H
            have c22b0 : (t177 == t179) = true := beq_iff_eq.mpr c22
            have c22b1 : (t177 != t179) = false := bne_eq_false_iff_eq.mpr c22
            clear c22
            replace H := Option.bind_eq_some_iff.mp H
            obtain ⟨t180, A230, H⟩ := H
            replace H : (if t180 = 0 then ((fix_Gain.f a0 512).bind fun t181 => ((fix_MulT.f a0 2).bind fun t182 => (some (t181 == t182)))) else (some false)) = some r := H
            have A23 := Aside0.mk A230
            clear A230
            by_cases c24 : t180 = 0
            · rw [if_pos c24] at H
              have c24b0 : (t180 == 0) = true := beq_iff_eq.mpr c24
              have c24b1 : (t180 != 0) = false := bne_eq_false_iff_eq.mpr c24
              clear c24
              replace H := Option.bind_eq_some_iff.mp H
              obtain ⟨t181, A250, H⟩ := H
              replace H : ((fix_MulT.f a0 2).bind fun t182 => (some (t181 == t182))) = some r := H
              have A25 := Aside0.mk A250
              clear A250
              replace H := Option.bind_eq_some_iff.mp H
              obtain ⟨t182, A260, H⟩ := H
              replace H : (some (t181 == t182)) = some r := H
              have A26 := Aside0.mk A260
              clear A260
              obtain rfl := Option.some.inj H
              go_wp2_with (first | (go_at_call 13; (with_reducible refine (fix_SubT.calls a0 a1 t176 _ A18.out).mono ?_); rintro e w27 ⟨rfl, hb⟩; have n0_ := Aside0.mk (below_step (by repeat (first | (with_reducible first | exact HB.out | apply below_alloc | apply pw_below_drewN | apply below_drew1) | exact HB.out)) hb); clear HB; have HB := n0_; clear n0_; (try clear hb); (try clear hb2); (try clear hk); (try clear hi)) | (go_at_call 13; (with_reducible refine (fix_SubT.calls t176 a2 t177 _ A19.out).mono ?_); rintro e w28 ⟨rfl, hb⟩; have n0_ := Aside0.mk (below_step (by repeat (first | (with_reducible first | exact HB.out | apply below_alloc | apply pw_below_drewN | apply below_drew1) | exact HB.out)) hb); clear HB; have HB := n0_; clear n0_; (try clear hb); (try clear hb2); (try clear hk); (try clear hi)) | (go_at_call 11; (with_reducible refine (fix_Add.calls a1 a2 t178 _ A20.out).mono ?_); rintro e w' ⟨rfl, ⟨nd, rfl⟩⟩) | (go_at_call 13; (with_reducible refine (fix_SubT.calls a0 t178 t179 _ A21.out).mono ?_); rintro e w29 ⟨rfl, hb⟩; have n0_ := Aside0.mk (below_step (by repeat (first | (with_reducible first | exact HB.out | apply below_alloc | apply pw_below_drewN | apply below_drew1) | exact HB.out)) hb); clear HB; have HB := n0_; clear n0_; (try clear hb); (try clear hb2); (try clear hk); (try clear hi)) | (go_at_call 19; (with_reducible refine (fix_Gain.calls a0 0 t180 _ A23.out).mono ?_); rintro e w' ⟨rfl, ⟨nd, rfl⟩⟩) | (go_at_call 19; (with_reducible refine (fix_Gain.calls a0 512 t181 _ A25.out).mono ?_); rintro e w' ⟨rfl, ⟨nd, rfl⟩⟩) | (go_at_call 15; (with_reducible refine (fix_MulT.calls a0 2 t182 _ A26.out).mono ?_); rintro e w' ⟨rfl, ⟨nd, rfl⟩⟩))
              go_ret
              exact ⟨by first | rfl | (simp [errW_none, errW_some] <;> rfl) | (simp [*, errW_none, errW_some] <;> rfl), by repeat (first | (with_reducible first | exact HB.out | apply below_alloc | apply pw_below_drewN | apply below_drew1) | exact HB.out)⟩
            · rw [if_neg c24] at H
              have c24b0 : (t180 == 0) = false := beq_eq_false_iff_ne.mpr c24
              have c24b1 : (t180 != 0) = true := bne_iff_ne.mpr c24
              obtain rfl := Option.some.inj H
              go_wp2_with (first | (go_at_call 13; (with_reducible refine (fix_SubT.calls a0 a1 t176 _ A18.out).mono ?_); rintro e w30 ⟨rfl, hb⟩; have n0_ := Aside0.mk (below_step (by repeat (first | (with_reducible first | exact HB.out | apply below_alloc | apply pw_below_drewN | apply below_drew1) | exact HB.out)) hb); clear HB; have HB := n0_; clear n0_; (try clear hb); (try clear hb2); (try clear hk); (try clear hi)) | (go_at_call 13; (with_reducible refine (fix_SubT.calls t176 a2 t177 _ A19.out).mono ?_); rintro e w31 ⟨rfl, hb⟩; have n0_ := Aside0.mk (below_step (by repeat (first | (with_reducible first | exact HB.out | apply below_alloc | apply pw_below_drewN | apply below_drew1) | exact HB.out)) hb); clear HB; have HB := n0_; clear n0_; (try clear hb); (try clear hb2); (try clear hk); (try clear hi)) | (go_at_call 11; (with_reducible refine (fix_Add.calls a1 a2 t178 _ A20.out).mono ?_); rintro e w' ⟨rfl, ⟨nd, rfl⟩⟩) | (go_at_call 13; (with_reducible refine (fix_SubT.calls a0 t178 t179 _ A21.out).mono ?_); rintro e w32 ⟨rfl, hb⟩; have n0_ := Aside0.mk (below_step (by repeat (first | (with_reducible first | exact HB.out | apply below_alloc | apply pw_below_drewN | apply below_drew1) | exact HB.out)) hb); clear HB; have HB := n0_; clear n0_; (try clear hb); (try clear hb2); (try clear hk); (try clear hi)) | (go_at_call 19; (with_reducible refine (fix_Gain.calls a0 0 t180 _ A23.out).mono ?_); rintro e w' ⟨rfl, ⟨nd, rfl⟩⟩))
              go_ret
              exact ⟨by first | rfl | (simp [errW_none, errW_some] <;> rfl) | (simp [*, errW_none, errW_some] <;> rfl), by repeat (first | (with_reducible first | exact HB.out | apply below_alloc | apply pw_below_drewN | apply below_drew1) | exact HB.out)⟩
          · rw [if_neg c22] at H
            have c22b0 : (t177 == t179) = false := beq_eq_false_iff_ne.mpr c22
            have c22b1 : (t177 != t179) = true := bne_iff_ne.mpr c22
            obtain rfl := Option.some.inj H
            go_wp2_with (first | (go_at_call 13; (with_reducible refine (fix_SubT.calls a0 a1 t176 _ A18.out).mono ?_); rintro e w33 ⟨rfl, hb⟩; have n0_ := Aside0.mk (below_step (by repeat (first | (with_reducible first | exact HB.out | apply below_alloc | apply pw_below_drewN | apply below_drew1) | exact HB.out)) hb); clear HB; have HB := n0_; clear n0_; (try clear hb); (try clear hb2); (try clear hk); (try clear hi)) | (go_at_call 13; (with_reducible refine (fix_SubT.calls t176 a2 t177 _ A19.out).mono ?_); rintro e w34 ⟨rfl, hb⟩; have n0_ := Aside0.mk (below_step (by repeat (first | (with_reducible first | exact HB.out | apply below_alloc | apply pw_below_drewN | apply below_drew1) | exact HB.out)) hb); clear HB; have HB := n0_; clear n0_; (try clear hb); (try clear hb2); (try clear hk); (try clear hi)) | (go_at_call 11; (with_reducible refine (fix_Add.calls a1 a2 t178 _ A20.out).mono ?_); rintro e w' ⟨rfl, ⟨nd, rfl⟩⟩) | (go_at_call 13; (with_reducible refine (fix_SubT.calls a0 t178 t179 _ A21.out).mono ?_); rintro e w35 ⟨rfl, hb⟩; have n0_ := Aside0.mk (below_step (by repeat (first | (with_reducible first | exact HB.out | apply below_alloc | apply pw_below_drewN | apply below_drew1) | exact HB.out)) hb); clear HB; have HB := n0_; clear n0_; (try clear hb); (try clear hb2); (try clear hk); (try clear hi)))
            go_ret
            exact ⟨by first | rfl | (simp [errW_none, errW_some] <;> rfl) | (simp [*, errW_none, errW_some] <;> rfl), by repeat (first | (with_reducible first | exact HB.out | apply below_alloc | apply pw_below_drewN | apply below_drew1) | exact HB.out)⟩
        · replace c17 := Bool.eq_false_iff.mpr c17
          subst c17
          have H1 : (some false) = some r := by rw [if_neg (show ¬ (false = true) by decide)] at H; exact H
          clear H
          have H := H1
          clear H1
          obtain rfl := Option.some.inj H
          go_wp2
          go_ret
          exact ⟨by first | rfl | (simp [errW_none, errW_some] <;> rfl) | (simp [*, errW_none, errW_some] <;> rfl), by repeat (first | (with_reducible first | exact HB.out | apply below_alloc | apply pw_below_drewN | apply below_drew1) | exact HB.out)⟩
      · replace c16 := Bool.eq_false_iff.mpr c16
        subst c16
        have H1 : (some false) = some r := by rw [if_neg (show ¬ (false = true) by decide)] at H; exact H
        clear H
        have H := H1
        clear H1
        obtain rfl := Option.some.inj H
        go_wp2
        go_ret
        exact ⟨by first | rfl | (simp [errW_none, errW_some] <;> rfl) | (simp [*, errW_none, errW_some] <;> rfl), by repeat (first | (with_reducible first | exact HB.out | apply below_alloc | apply pw_below_drewN | apply below_drew1) | exact HB.out)⟩

/-- THE ONE PURE STATEMENT of wigwaglaw01_FixBrackets: yours. -/
def wigwaglaw01_FixBrackets.Pure : Prop := ∀ (a0 : Int) (a1 : Int) (a2 : Int), (Lit.int .u64 a0).wf = true → (Lit.int .u64 a1).wf = true → (Lit.int .u64 a2).wf = true → ∃ k, wigwaglaw01_FixBrackets.f k a0 a1 a2 = some true
theorem wigwaglaw01_FixBrackets.walk (P : wigwaglaw01_FixBrackets.Pure) (a0 : Int) (a1 : Int) (a2 : Int) (w : World) (w0 : (Lit.int .u64 a0).wf = true) (w1 : (Lit.int .u64 a1).wf = true) (w2 : (Lit.int .u64 a2).wf = true) :
    Calls Try.prog 8 #[.int .u64 a0, .int .u64 a1, .int .u64 a2] w fun e w' => e = .returned (.bool true) ∧ Below w.heap.size w w' := by
  obtain ⟨k, h⟩ := P a0 a1 a2 w0 w1 w2
  refine (wigwaglaw01_FixBrackets.calls k a0 a1 a2 true w h).mono ?_
  rintro e w' ⟨rfl, hd⟩
  exact ⟨rfl, hd⟩

/-! ### wigwaglaw01_FixSmall: function 9 -/
def wigwaglaw01_FixSmall.j0 : Nat → Int → Bool → Int → Int → Int → Option (Bool)
  | 0, _, _, _, _, _ => none
  | k + 1, x0, x5, x6, x7, x8 => if x5 = true then ((fix_Add.f x6 x7).bind fun t184 => (if t184 = (IntKind.u64.wrap (x6 + x7)) then ((fix_MulT.f x6 x7).bind fun t185 => (if t185 = (IntKind.u64.wrap (x6 * x7)) then ((fix_SubT.f x6 x7).bind fun t186 => (if t186 = x8 then ((fix_Cbrt.f (IntKind.u64.wrap ((IntKind.u64.wrap ((IntKind.u64.wrap (Int.tmod x0 2048)) * (IntKind.u64.wrap (Int.tmod x0 2048)))) * (IntKind.u64.wrap (Int.tmod x0 2048))))).bind fun t187 => (some (t187 == (IntKind.u64.wrap (Int.tmod x0 2048))))) else (some false))) else (some false))) else (some false))) else (some false)
def wigwaglaw01_FixSmall.f (k : Nat) (a0 : Int) (a1 : Int) : Option (Bool) := (wigwaglaw01_awake.f).bind fun t183 => (if (IntKind.u64.wrap (a0)) > (IntKind.u64.wrap (a1)) then (wigwaglaw01_FixSmall.j0 k a0 t183 (IntKind.u64.wrap (a0)) (IntKind.u64.wrap (a1)) (IntKind.u64.wrap ((IntKind.u64.wrap (a0)) - (IntKind.u64.wrap (a1))))) else (wigwaglaw01_FixSmall.j0 k a0 t183 (IntKind.u64.wrap (a0)) (IntKind.u64.wrap (a1)) 0))
theorem wigwaglaw01_FixSmall.mono_l : ∀ k, (∀ y0 y1 y2 y3 y4, LeO (wigwaglaw01_FixSmall.j0 k y0 y1 y2 y3 y4) (wigwaglaw01_FixSmall.j0 (k + 1) y0 y1 y2 y3 y4))
  | 0 => fun _ _ _ _ _ r h => by simp [wigwaglaw01_FixSmall.j0] at h
  | k + 1 => by
    have ih0 := wigwaglaw01_FixSmall.mono_l k
    · intro y0 y1 y2 y3 y4
      unfold wigwaglaw01_FixSmall.j0
      repeat' first
      | (with_reducible exact ih0 _ _ _ _ _)
      | (with_reducible exact LeO.refl _)
      | (with_reducible exact LeO.none _)
      | (with_reducible refine LeO.ite ?_ ?_)
      | (with_reducible refine LeO.bind ?_ (fun _ => ?_))
      | exact ih0 _ _ _ _ _
      | exact LeO.none _
      | refine LeO.ite ?_ ?_
      | refine LeO.bind ?_ (fun _ => ?_)
theorem wigwaglaw01_FixSmall.mono : ∀ a0 a1 k, LeO (wigwaglaw01_FixSmall.f k a0 a1) (wigwaglaw01_FixSmall.f (k + 1) a0 a1) := by
  intro a0 a1 k
  have ih0 := wigwaglaw01_FixSmall.mono_l k
  unfold wigwaglaw01_FixSmall.f
  repeat' first
      | (with_reducible exact ih0 _ _ _ _ _)
      | (with_reducible exact LeO.refl _)
      | (with_reducible exact LeO.none _)
      | (with_reducible refine LeO.ite ?_ ?_)
      | (with_reducible refine LeO.bind ?_ (fun _ => ?_))
      | exact ih0 _ _ _ _ _
      | exact LeO.none _
      | refine LeO.ite ?_ ?_
      | refine LeO.bind ?_ (fun _ => ?_)
set_option maxHeartbeats 8000000 in
set_option maxRecDepth 100000 in
theorem wigwaglaw01_FixSmall.calls (k : Nat) (a0 : Int) (a1 : Int) (r : Bool) (w : World) (h : wigwaglaw01_FixSmall.f k a0 a1 = some r) :
    Calls Try.prog 9 #[.int .u32 a0, .int .u32 a1] w fun e w' => e = .returned (.bool r) ∧ Below w.heap.size w w' := by
  have HB := Aside0.mk (Below.refl w.heap.size w)
  have H : ((wigwaglaw01_awake.f).bind fun t183 => (if (IntKind.u64.wrap (a0)) > (IntKind.u64.wrap (a1)) then (wigwaglaw01_FixSmall.j0 k a0 t183 (IntKind.u64.wrap (a0)) (IntKind.u64.wrap (a1)) (IntKind.u64.wrap ((IntKind.u64.wrap (a0)) - (IntKind.u64.wrap (a1))))) else (wigwaglaw01_FixSmall.j0 k a0 t183 (IntKind.u64.wrap (a0)) (IntKind.u64.wrap (a1)) 0))) = some r := h
  clear h
  replace H := Option.bind_eq_some_iff.mp H
  obtain ⟨t183, A30, H⟩ := H
  replace H : (if (IntKind.u64.wrap (a0)) > (IntKind.u64.wrap (a1)) then (wigwaglaw01_FixSmall.j0 k a0 t183 (IntKind.u64.wrap (a0)) (IntKind.u64.wrap (a1)) (IntKind.u64.wrap ((IntKind.u64.wrap (a0)) - (IntKind.u64.wrap (a1))))) else (wigwaglaw01_FixSmall.j0 k a0 t183 (IntKind.u64.wrap (a0)) (IntKind.u64.wrap (a1)) 0)) = some r := H
  have A3 := Aside0.mk A30
  clear A30
  have HC4 := Aside0.mk H
  clear H
  go_enter Try.func9, Try.ntmps9
  go_upto_if 17 with (first | ((with_reducible refine gate_callee (f := 10) rfl ?_); refine goesL_ (some 10) rfl rfl Try.func10 (by kernel_rfl) rfl #[] rfl (by (try simp only [List.map_toArray, List.map_cons, List.map_nil]); first | done | rfl | (simp only [List.length_drop, List.length_take]; rfl)) ?_; (with_reducible refine (wigwaglaw01_awake.calls  t183 _ A3.out).mono ?_); rintro e w5 ⟨rfl, hb⟩; refine ⟨_, rfl, ?_⟩; have n0_ := Aside0.mk (below_step (by repeat (first | (with_reducible first | exact HB.out | apply below_alloc | apply pw_below_drewN | apply below_drew1) | exact HB.out)) hb); clear HB; have HB := n0_; clear n0_; (try clear hb); (try clear hb2); (try clear hk); (try clear hi)))
  (try simp only [Act.put, List.setIfInBounds_toArray, List.set_cons_zero, List.set_cons_succ])
  go_cut [8] (fun v8 wc => ∃ (kq : Nat) (x8_3 : Int), v8 = .int .u64 x8_3 ∧ Aside0 (wigwaglaw01_FixSmall.j0 kq a0 t183 (IntKind.u64.wrap (a0)) (IntKind.u64.wrap (a1)) x8_3 = some r) ∧ Aside0 (kq ≤ k) ∧ Aside0 (Below w.heap.size w wc))
  case first =>
    have H := HC4.out
    clear HC4
    by_cases c6 : (IntKind.u64.wrap (a0)) > (IntKind.u64.wrap (a1))
    · rw [if_pos c6] at H
      have c6b0 : decide ((IntKind.u64.wrap (a1)) < (IntKind.u64.wrap (a0))) = true := decide_eq_true c6
      clear c6
      (first | rw [c6b0] | (simp only [i64_w, i32_w]; rw [c6b0]) | skip)
      have H' := Aside0.mk H
      clear H
      go_wp2
      go_meet
      case rel => exact ⟨_, (IntKind.u64.wrap ((IntKind.u64.wrap (a0)) - (IntKind.u64.wrap (a1)))), (by first | rfl | (simp; done) | (simp [*]; done)), H', ⟨by first | omega | exact Nat.le_refl _⟩, ⟨by repeat (first | (with_reducible first | exact HB.out | apply below_alloc | apply pw_below_drewN | apply below_drew1) | exact HB.out)⟩⟩
    · rw [if_neg c6] at H
      have c6b0 : decide ((IntKind.u64.wrap (a1)) < (IntKind.u64.wrap (a0))) = false := decide_eq_false c6
      clear c6
      (first | rw [c6b0] | (simp only [i64_w, i32_w]; rw [c6b0]) | skip)
      have H' := Aside0.mk H
      clear H
      go_wp2
      go_meet
      case rel => exact ⟨_, (0), (by first | rfl | (simp; done) | (simp [*]; done)), H', ⟨by first | omega | exact Nat.le_refl _⟩, ⟨by repeat (first | (with_reducible first | exact HB.out | apply below_alloc | apply pw_below_drewN | apply below_drew1) | exact HB.out)⟩⟩
  case rest =>
    clear HC4
    try clear c1
    try clear p2
    try clear c6
    try clear c6b0
    obtain ⟨kq, x8_3, rfl, HA, HJ3, HB⟩ := hcut
    cases kq with
    | zero => exact absurd HA.out (by simp [wigwaglaw01_FixSmall.j0])
    | succ kj3 =>
      have H := HA.out
      clear HA
      simp only [wigwaglaw01_FixSmall.j0] at H
      by_cases c7 : t183 = true
      · subst c7
        have H1 : ((fix_Add.f (IntKind.u64.wrap (a0)) (IntKind.u64.wrap (a1))).bind fun t184 => (if t184 = (IntKind.u64.wrap ((IntKind.u64.wrap (a0)) + (IntKind.u64.wrap (a1)))) then ((fix_MulT.f (IntKind.u64.wrap (a0)) (IntKind.u64.wrap (a1))).bind fun t185 => (if t185 = (IntKind.u64.wrap ((IntKind.u64.wrap (a0)) * (IntKind.u64.wrap (a1)))) then ((fix_SubT.f (IntKind.u64.wrap (a0)) (IntKind.u64.wrap (a1))).bind fun t186 => (if t186 = x8_3 then ((fix_Cbrt.f (IntKind.u64.wrap ((IntKind.u64.wrap ((IntKind.u64.wrap (Int.tmod a0 2048)) * (IntKind.u64.wrap (Int.tmod a0 2048)))) * (IntKind.u64.wrap (Int.tmod a0 2048))))).bind fun t187 => (some (t187 == (IntKind.u64.wrap (Int.tmod a0 2048))))) else (some false))) else (some false))) else (some false))) = some r := by rw [if_pos rfl] at H; exact H
        clear H
        have H := H1
        clear H1
        replace H := Option.bind_eq_some_iff.mp H
        obtain ⟨t184, A80, H⟩ := H
        replace H : (if t184 = (IntKind.u64.wrap ((IntKind.u64.wrap (a0)) + (IntKind.u64.wrap (a1)))) then ((fix_MulT.f (IntKind.u64.wrap (a0)) (IntKind.u64.wrap (a1))).bind fun t185 => (if t185 = (IntKind.u64.wrap ((IntKind.u64.wrap (a0)) * (IntKind.u64.wrap (a1)))) then ((fix_SubT.f (IntKind.u64.wrap (a0)) (IntKind.u64.wrap (a1))).bind fun t186 => (if t186 = x8_3 then ((fix_Cbrt.f (IntKind.u64.wrap ((IntKind.u64.wrap ((IntKind.u64.wrap (Int.tmod a0 2048)) * (IntKind.u64.wrap (Int.tmod a0 2048)))) * (IntKind.u64.wrap (Int.tmod a0 2048))))).bind fun t187 => (some (t187 == (IntKind.u64.wrap (Int.tmod a0 2048))))) else (some false))) else (some false))) else (some false)) = some r := H
        have A8 := Aside0.mk A80
        clear A80
        by_cases c9 : t184 = (IntKind.u64.wrap ((IntKind.u64.wrap (a0)) + (IntKind.u64.wrap (a1))))
        · rw [if_pos c9] at H
          have c9b0 : (t184 == (IntKind.u64.wrap ((IntKind.u64.wrap (a0)) + (IntKind.u64.wrap (a1))))) = true := beq_iff_eq.mpr c9
          have c9b1 : (t184 != (IntKind.u64.wrap ((IntKind.u64.wrap (a0)) + (IntKind.u64.wrap (a1))))) = false := bne_eq_false_iff_eq.mpr c9
          clear c9
          replace H := Option.bind_eq_some_iff.mp H
          obtain ⟨t185, A100, H⟩ := H
          replace H : (if t185 = (IntKind.u64.wrap ((IntKind.u64.wrap (a0)) * (IntKind.u64.wrap (a1)))) then ((fix_SubT.f (IntKind.u64.wrap (a0)) (IntKind.u64.wrap (a1))).bind fun t186 => (if t186 = x8_3 then ((fix_Cbrt.f (IntKind.u64.wrap ((IntKind.u64.wrap ((IntKind.u64.wrap (Int.tmod a0 2048)) * (IntKind.u64.wrap (Int.tmod a0 2048)))) * (IntKind.u64.wrap (Int.tmod a0 2048))))).bind fun t187 => (some (t187 == (IntKind.u64.wrap (Int.tmod a0 2048))))) else (some false))) else (some false)) = some r := H
          have A10 := Aside0.mk A100
          clear A100
          by_cases c11 : t185 = (IntKind.u64.wrap ((IntKind.u64.wrap (a0)) * (IntKind.u64.wrap (a1))))
          · rw [if_pos c11] at H
            have c11b0 : (t185 == (IntKind.u64.wrap ((IntKind.u64.wrap (a0)) * (IntKind.u64.wrap (a1))))) = true := beq_iff_eq.mpr c11
            have c11b1 : (t185 != (IntKind.u64.wrap ((IntKind.u64.wrap (a0)) * (IntKind.u64.wrap (a1))))) = false := bne_eq_false_iff_eq.mpr c11
            clear c11
            replace H := Option.bind_eq_some_iff.mp H
            obtain ⟨t186, A120, H⟩ := H
            replace H : (if t186 = x8_3 then ((fix_Cbrt.f (IntKind.u64.wrap ((IntKind.u64.wrap ((IntKind.u64.wrap (Int.tmod a0 2048)) * (IntKind.u64.wrap (Int.tmod a0 2048)))) * (IntKind.u64.wrap (Int.tmod a0 2048))))).bind fun t187 => (some (t187 == (IntKind.u64.wrap (Int.tmod a0 2048))))) else (some false)) = some r := H
            have A12 := Aside0.mk A120
            clear A120
            by_cases c13 : t186 = x8_3
            · rw [if_pos c13] at H
              have c13b0 : (t186 == x8_3) = true := beq_iff_eq.mpr c13
              have c13b1 : (t186 != x8_3) = false := bne_eq_false_iff_eq.mpr c13
              clear c13
              replace H := Option.bind_eq_some_iff.mp H
              obtain ⟨t187, A140, H⟩ := H
              replace H : (some (t187 == (IntKind.u64.wrap (Int.tmod a0 2048)))) = some r := H
              have A14 := Aside0.mk A140
              clear A140
              obtain rfl := Option.some.inj H
              go_wp2_with (first | (go_at_call 11; (with_reducible refine (fix_Add.calls (IntKind.u64.wrap (a0)) (IntKind.u64.wrap (a1)) t184 _ A8.out).mono ?_); rintro e w' ⟨rfl, ⟨nd, rfl⟩⟩) | (go_at_call 15; (with_reducible refine (fix_MulT.calls (IntKind.u64.wrap (a0)) (IntKind.u64.wrap (a1)) t185 _ A10.out).mono ?_); rintro e w' ⟨rfl, ⟨nd, rfl⟩⟩) | (go_at_call 13; (with_reducible refine (fix_SubT.calls (IntKind.u64.wrap (a0)) (IntKind.u64.wrap (a1)) t186 _ A12.out).mono ?_); rintro e w15 ⟨rfl, hb⟩; have n0_ := Aside0.mk (below_step (by repeat (first | (with_reducible first | exact HB.out | apply below_alloc | apply pw_below_drewN | apply below_drew1) | exact HB.out)) hb); clear HB; have HB := n0_; clear n0_; (try clear hb); (try clear hb2); (try clear hk); (try clear hi)) | (go_at_call 21; (with_reducible refine (fix_Cbrt.calls (IntKind.u64.wrap ((IntKind.u64.wrap ((IntKind.u64.wrap (Int.tmod a0 2048)) * (IntKind.u64.wrap (Int.tmod a0 2048)))) * (IntKind.u64.wrap (Int.tmod a0 2048)))) t187 _ A14.out).mono ?_); rintro e w16 ⟨rfl, hb⟩; have n0_ := Aside0.mk (below_step (by repeat (first | (with_reducible first | exact HB.out | apply below_alloc | apply pw_below_drewN | apply below_drew1) | exact HB.out)) hb); clear HB; have HB := n0_; clear n0_; (try clear hb); (try clear hb2); (try clear hk); (try clear hi)))
              go_ret
              exact ⟨by first | rfl | (simp [errW_none, errW_some] <;> rfl) | (simp [*, errW_none, errW_some] <;> rfl), by repeat (first | (with_reducible first | exact HB.out | apply below_alloc | apply pw_below_drewN | apply below_drew1) | exact HB.out)⟩
            · rw [if_neg c13] at H
              have c13b0 : (t186 == x8_3) = false := beq_eq_false_iff_ne.mpr c13
              have c13b1 : (t186 != x8_3) = true := bne_iff_ne.mpr c13
              obtain rfl := Option.some.inj H
              go_wp2_with (first | (go_at_call 11; (with_reducible refine (fix_Add.calls (IntKind.u64.wrap (a0)) (IntKind.u64.wrap (a1)) t184 _ A8.out).mono ?_); rintro e w' ⟨rfl, ⟨nd, rfl⟩⟩) | (go_at_call 15; (with_reducible refine (fix_MulT.calls (IntKind.u64.wrap (a0)) (IntKind.u64.wrap (a1)) t185 _ A10.out).mono ?_); rintro e w' ⟨rfl, ⟨nd, rfl⟩⟩) | (go_at_call 13; (with_reducible refine (fix_SubT.calls (IntKind.u64.wrap (a0)) (IntKind.u64.wrap (a1)) t186 _ A12.out).mono ?_); rintro e w17 ⟨rfl, hb⟩; have n0_ := Aside0.mk (below_step (by repeat (first | (with_reducible first | exact HB.out | apply below_alloc | apply pw_below_drewN | apply below_drew1) | exact HB.out)) hb); clear HB; have HB := n0_; clear n0_; (try clear hb); (try clear hb2); (try clear hk); (try clear hi)))
              go_ret
              exact ⟨by first | rfl | (simp [errW_none, errW_some] <;> rfl) | (simp [*, errW_none, errW_some] <;> rfl), by repeat (first | (with_reducible first | exact HB.out | apply below_alloc | apply pw_below_drewN | apply below_drew1) | exact HB.out)⟩
          · rw [if_neg c11] at H
            have c11b0 : (t185 == (IntKind.u64.wrap ((IntKind.u64.wrap (a0)) * (IntKind.u64.wrap (a1))))) = false := beq_eq_false_iff_ne.mpr c11
            have c11b1 : (t185 != (IntKind.u64.wrap ((IntKind.u64.wrap (a0)) * (IntKind.u64.wrap (a1))))) = true := bne_iff_ne.mpr c11
            obtain rfl := Option.some.inj H
            go_wp2_with (first | (go_at_call 11; (with_reducible refine (fix_Add.calls (IntKind.u64.wrap (a0)) (IntKind.u64.wrap (a1)) t184 _ A8.out).mono ?_); rintro e w' ⟨rfl, ⟨nd, rfl⟩⟩) | (go_at_call 15; (with_reducible refine (fix_MulT.calls (IntKind.u64.wrap (a0)) (IntKind.u64.wrap (a1)) t185 _ A10.out).mono ?_); rintro e w' ⟨rfl, ⟨nd, rfl⟩⟩))
            go_ret
            exact ⟨by first | rfl | (simp [errW_none, errW_some] <;> rfl) | (simp [*, errW_none, errW_some] <;> rfl), by repeat (first | (with_reducible first | exact HB.out | apply below_alloc | apply pw_below_drewN | apply below_drew1) | exact HB.out)⟩
        · rw [if_neg c9] at H
          have c9b0 : (t184 == (IntKind.u64.wrap ((IntKind.u64.wrap (a0)) + (IntKind.u64.wrap (a1))))) = false := beq_eq_false_iff_ne.mpr c9
          have c9b1 : (t184 != (IntKind.u64.wrap ((IntKind.u64.wrap (a0)) + (IntKind.u64.wrap (a1))))) = true := bne_iff_ne.mpr c9
          obtain rfl := Option.some.inj H
          go_wp2_with (first | (go_at_call 11; (with_reducible refine (fix_Add.calls (IntKind.u64.wrap (a0)) (IntKind.u64.wrap (a1)) t184 _ A8.out).mono ?_); rintro e w' ⟨rfl, ⟨nd, rfl⟩⟩))
          go_ret
          exact ⟨by first | rfl | (simp [errW_none, errW_some] <;> rfl) | (simp [*, errW_none, errW_some] <;> rfl), by repeat (first | (with_reducible first | exact HB.out | apply below_alloc | apply pw_below_drewN | apply below_drew1) | exact HB.out)⟩
      · replace c7 := Bool.eq_false_iff.mpr c7
        subst c7
        have H1 : (some false) = some r := by rw [if_neg (show ¬ (false = true) by decide)] at H; exact H
        clear H
        have H := H1
        clear H1
        obtain rfl := Option.some.inj H
        go_wp2
        go_ret
        exact ⟨by first | rfl | (simp [errW_none, errW_some] <;> rfl) | (simp [*, errW_none, errW_some] <;> rfl), by repeat (first | (with_reducible first | exact HB.out | apply below_alloc | apply pw_below_drewN | apply below_drew1) | exact HB.out)⟩

/-- THE ONE PURE STATEMENT of wigwaglaw01_FixSmall: yours. -/
def wigwaglaw01_FixSmall.Pure : Prop := ∀ (a0 : Int) (a1 : Int), (Lit.int .u32 a0).wf = true → (Lit.int .u32 a1).wf = true → ∃ k, wigwaglaw01_FixSmall.f k a0 a1 = some true
theorem wigwaglaw01_FixSmall.walk (P : wigwaglaw01_FixSmall.Pure) (a0 : Int) (a1 : Int) (w : World) (w0 : (Lit.int .u32 a0).wf = true) (w1 : (Lit.int .u32 a1).wf = true) :
    Calls Try.prog 9 #[.int .u32 a0, .int .u32 a1] w fun e w' => e = .returned (.bool true) ∧ Below w.heap.size w w' := by
  obtain ⟨k, h⟩ := P a0 a1 w0 w1
  refine (wigwaglaw01_FixSmall.calls k a0 a1 true w h).mono ?_
  rintro e w' ⟨rfl, hd⟩
  exact ⟨rfl, hd⟩

end Go.Proofs.Ytffanpfimhldhaa.PFix
