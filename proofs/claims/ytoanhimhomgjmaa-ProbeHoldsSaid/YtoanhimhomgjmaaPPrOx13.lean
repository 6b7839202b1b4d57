-- Written by a program of this session (wip/tools/xprint.py) for this claim.
import Derived.Test.YtoanhimhomgjmaaPPrOx0
import Derived.Test.YtoanhimhomgjmaaPPrOx1
import Derived.Test.YtoanhimhomgjmaaPPrOx4
import Derived.Test.YtoanhimhomgjmaaPPrOx5
namespace Go.Proofs.Ytoanhimhomgjmaa.PPrO
open Go.RowKit Go.Proofs.YtoanhimhomgjmaaW.PrintWords Go.Proofs.YtoanhimhomgjmaaW.PrintLast Go.Proofs.YtoanhimhomgjmaaW.PrintMore
attribute [local go_sem] max2_int min2_int max_two min_two max_three min_three max_four min_four   -- for this text's walks alone
set_option linter.unusedVariables false
set_option linter.unusedSimpArgs false

/-! ### probe_Rate: function 21 -/
def probe_Rate.f (a0_0 : Int) (l0_1 : List (S52)) (_ _ _ _ _ a0_7 _ _ : Int) : Option Int := (filt_Best.f l0_1).bind fun b => if b = 0 then fix_MulDivT.f 12000 1000 333 else if a0_0 = 0 then fix_Gain.f b 739 else if a0_0 = 1 then fix_Gain.f b 89 else if a0_0 = 2 then (if 0 ≤ a0_7 then (if a0_7 % 8 = 0 then fix_Gain.f b 320 else if a0_7 % 8 = 1 then fix_Gain.f b 192 else fix_Gain.f b 256) else none) else fix_Gain.f b 256
set_option maxHeartbeats 4000000 in
theorem probe_Rate.way (a0_0 : Int) (A0_1 : Option Addr) (c0_1 : Nat) (l0_1 : List (S52)) (a0_2 : Int) (a0_3 : Int) (a0_4 : Int) (a0_5 : Int) (a0_6 : Int) (a0_7 : Int) (a0_8 : Int) (a0_9 : Int) (b K : Int) (r : Int) (w : World) (hr0_1 : Kd.C k52 w A0_1 l0_1.length l0_1) (hc0_1 : l0_1.length ≤ c0_1) (hb : filt_Best.f l0_1 = some b)
    (h : b = 0 ∧ fix_MulDivT.f 12000 1000 333 = some r ∨ fix_Gain.f b K = some r ∧ b ≠ 0 ∧ (a0_0 = 0 ∧ K = 739 ∨ a0_0 = 1 ∧ K = 89 ∨ a0_0 ≠ 0 ∧ a0_0 ≠ 1 ∧ a0_0 ≠ 2 ∧ K = 256)) :
    Calls Try.prog 21 #[.agg #[.int .i64 a0_0, .slice A0_1 l0_1.length c0_1, .int .u64 a0_2, .int .u64 a0_3, .int .u64 a0_4, .int .u64 a0_5, .int .u64 a0_6, .int .u64 a0_7, .int .u64 a0_8, .int .u64 a0_9]] w fun e w' => e = .returned (.int .u64 r) ∧ Below w.heap.size w w' := by
  have hu := Try.underlying26
  rcases h with ⟨h0, hm⟩ | ⟨hg, h0, ⟨h1, hK⟩ | ⟨h1, hK⟩ | ⟨h1, h2, h3, hK⟩⟩
  · have d0 : (b == 0) = true := by simp [h0]
    go_enter Try.func21, Try.ntmps21
    go_wp2_with (first | ((go_at_call 23); (with_reducible refine (filt_Best.calls _ _ l0_1 b _ (Kd.C_below hr0_1 ?kb) hc0_1 hb).mono ?_); (case kb => repeat (first | (with_reducible exact Below.refl _ _) | (with_reducible refine below_set ?_ (by simp)) | (with_reducible apply pw_below_drewN) | (with_reducible apply below_alloc))); rintro e w' ⟨rfl, ⟨nd, rfl⟩⟩) | ((go_at_call 35); (with_reducible refine (fix_MulDivT.calls _ _ _ r _ hm).mono ?_); rintro e w' ⟨rfl, ⟨nd, rfl⟩⟩))
    refine bodyPost_ret (v := .int .u64 r) (by simp [results, Try.results21, go_sem]) rfl ⟨rfl, ?_⟩
    repeat (first | (with_reducible exact Below.refl _ _) | (with_reducible refine below_set ?_ (by simp)) | (with_reducible apply pw_below_drewN) | (with_reducible apply below_alloc))
  · subst hK
    have d0 : (b == 0) = false := by simp [h0]
    have d1 : (a0_0 == 0) = true := by simp [h1]
    go_enter Try.func21, Try.ntmps21
    go_wp2_with (first | ((go_at_call 23); (with_reducible refine (filt_Best.calls _ _ l0_1 b _ (Kd.C_below hr0_1 ?kb) hc0_1 hb).mono ?_); (case kb => repeat (first | (with_reducible exact Below.refl _ _) | (with_reducible refine below_set ?_ (by simp)) | (with_reducible apply pw_below_drewN) | (with_reducible apply below_alloc))); rintro e w' ⟨rfl, ⟨nd, rfl⟩⟩) | ((go_at_call 37); (with_reducible refine (fix_Gain.calls _ _ r _ hg).mono ?_); rintro e w' ⟨rfl, ⟨nd, rfl⟩⟩))
    refine bodyPost_ret (v := .int .u64 r) (by simp [results, Try.results21, go_sem]) rfl ⟨rfl, ?_⟩
    repeat (first | (with_reducible exact Below.refl _ _) | (with_reducible refine below_set ?_ (by simp)) | (with_reducible apply pw_below_drewN) | (with_reducible apply below_alloc))
  · subst hK
    have d0 : (b == 0) = false := by simp [h0]
    have d1 : (a0_0 == 0) = false := by simp [h1]
    have d2 : (a0_0 == 1) = true := by simp [h1]
    go_enter Try.func21, Try.ntmps21
    go_wp2_with (first | ((go_at_call 23); (with_reducible refine (filt_Best.calls _ _ l0_1 b _ (Kd.C_below hr0_1 ?kb) hc0_1 hb).mono ?_); (case kb => repeat (first | (with_reducible exact Below.refl _ _) | (with_reducible refine below_set ?_ (by simp)) | (with_reducible apply pw_below_drewN) | (with_reducible apply below_alloc))); rintro e w' ⟨rfl, ⟨nd, rfl⟩⟩) | ((go_at_call 37); (with_reducible refine (fix_Gain.calls _ _ r _ hg).mono ?_); rintro e w' ⟨rfl, ⟨nd, rfl⟩⟩))
    refine bodyPost_ret (v := .int .u64 r) (by simp [results, Try.results21, go_sem]) rfl ⟨rfl, ?_⟩
    repeat (first | (with_reducible exact Below.refl _ _) | (with_reducible refine below_set ?_ (by simp)) | (with_reducible apply pw_below_drewN) | (with_reducible apply below_alloc))
  · subst hK
    have d0 : (b == 0) = false := by simp [h0]
    have d1 : (a0_0 == 0) = false := by simp [h1]
    have d2 : (a0_0 == 1) = false := by simp [h2]
    have d3 : (a0_0 == 2) = false := by simp [h3]
    go_enter Try.func21, Try.ntmps21
    go_wp2_with (first | ((go_at_call 23); (with_reducible refine (filt_Best.calls _ _ l0_1 b _ (Kd.C_below hr0_1 ?kb) hc0_1 hb).mono ?_); (case kb => repeat (first | (with_reducible exact Below.refl _ _) | (with_reducible refine below_set ?_ (by simp)) | (with_reducible apply pw_below_drewN) | (with_reducible apply below_alloc))); rintro e w' ⟨rfl, ⟨nd, rfl⟩⟩) | ((go_at_call 37); (with_reducible refine (fix_Gain.calls _ _ r _ hg).mono ?_); rintro e w' ⟨rfl, ⟨nd, rfl⟩⟩))
    refine bodyPost_ret (v := .int .u64 r) (by simp [results, Try.results21, go_sem]) rfl ⟨rfl, ?_⟩
    repeat (first | (with_reducible exact Below.refl _ _) | (with_reducible refine below_set ?_ (by simp)) | (with_reducible apply pw_below_drewN) | (with_reducible apply below_alloc))
set_option maxHeartbeats 8000000 in
theorem probe_Rate.cyc (a0_0 : Int) (A0_1 : Option Addr) (c0_1 : Nat) (l0_1 : List (S52)) (a0_2 : Int) (a0_3 : Int) (a0_4 : Int) (a0_5 : Int) (a0_6 : Int) (a0_7 : Int) (a0_8 : Int) (a0_9 : Int) (b K : Int) (r : Int) (w : World) (hr0_1 : Kd.C k52 w A0_1 l0_1.length l0_1) (hc0_1 : l0_1.length ≤ c0_1) (hb : filt_Best.f l0_1 = some b) (h0 : b ≠ 0) (h1 : a0_0 = 2) (hp : 0 ≤ a0_7) (hg : fix_Gain.f b K = some r)
    (h : a0_7 % 8 = 0 ∧ K = 320 ∨ a0_7 % 8 = 1 ∧ K = 192 ∨ a0_7 % 8 = 2 ∧ K = 256 ∨ a0_7 % 8 = 3 ∧ K = 256 ∨ a0_7 % 8 = 4 ∧ K = 256 ∨ a0_7 % 8 = 5 ∧ K = 256 ∨ a0_7 % 8 = 6 ∧ K = 256 ∨ a0_7 % 8 = 7 ∧ K = 256) :
    Calls Try.prog 21 #[.agg #[.int .i64 a0_0, .slice A0_1 l0_1.length c0_1, .int .u64 a0_2, .int .u64 a0_3, .int .u64 a0_4, .int .u64 a0_5, .int .u64 a0_6, .int .u64 a0_7, .int .u64 a0_8, .int .u64 a0_9]] w fun e w' => e = .returned (.int .u64 r) ∧ Below w.heap.size w w' := by
  have hu := Try.underlying26
  have d0 : (b == 0) = false := by simp [h0]
  have d1 : (a0_0 == 0) = false := by simp [h1]
  have d2 : (a0_0 == 1) = false := by simp [h1]
  have d3 : (a0_0 == 2) = true := by simp [h1]
  rcases h with ⟨h, hK⟩ | ⟨h, hK⟩ | ⟨h, hK⟩ | ⟨h, hK⟩ | ⟨h, hK⟩ | ⟨h, hK⟩ | ⟨h, hK⟩ | ⟨h, hK⟩ <;> (
    have e8 := (Int.tmod_eq_emod_of_nonneg (b := 8) hp).trans h
    subst hK
    clear hp h
    go_enter Try.func21, Try.ntmps21
    go_wp2_with (first | ((go_at_call 23); (with_reducible refine (filt_Best.calls _ _ l0_1 b _ (Kd.C_below hr0_1 ?kb) hc0_1 hb).mono ?_); (case kb => repeat (first | (with_reducible exact Below.refl _ _) | (with_reducible refine below_set ?_ (by simp)) | (with_reducible apply pw_below_drewN) | (with_reducible apply below_alloc))); rintro e w' ⟨rfl, ⟨nd, rfl⟩⟩) | ((go_at_call 37); (with_reducible refine (fix_Gain.calls _ _ r _ hg).mono ?_); rintro e w' ⟨rfl, ⟨nd, rfl⟩⟩))
    refine bodyPost_ret (v := .int .u64 r) (by simp [results, Try.results21, go_sem]) rfl ⟨rfl, ?_⟩
    repeat (first | (with_reducible exact Below.refl _ _) | (with_reducible refine below_set ?_ (by simp)) | (with_reducible apply pw_below_drewN) | (with_reducible apply below_alloc)))
theorem probe_Rate.calls (a0_0 : Int) (A0_1 : Option Addr) (c0_1 : Nat) (l0_1 : List (S52)) (a0_2 : Int) (a0_3 : Int) (a0_4 : Int) (a0_5 : Int) (a0_6 : Int) (a0_7 : Int) (a0_8 : Int) (a0_9 : Int) (r : Int) (w : World) (hr0_1 : Kd.C k52 w A0_1 l0_1.length l0_1) (hc0_1 : l0_1.length ≤ c0_1) (h : probe_Rate.f a0_0 l0_1 a0_2 a0_3 a0_4 a0_5 a0_6 a0_7 a0_8 a0_9 = some r) :
    Calls Try.prog 21 #[.agg #[.int .i64 a0_0, .slice A0_1 l0_1.length c0_1, .int .u64 a0_2, .int .u64 a0_3, .int .u64 a0_4, .int .u64 a0_5, .int .u64 a0_6, .int .u64 a0_7, .int .u64 a0_8, .int .u64 a0_9]] w fun e w' => e = .returned (.int .u64 r) ∧ Below w.heap.size w w' := by
  unfold probe_Rate.f at h
  obtain ⟨b, hb, h⟩ := Option.bind_eq_some_iff.mp h
  by_cases h0 : b = 0
  · rw [if_pos h0] at h
    exact probe_Rate.way a0_0 A0_1 c0_1 l0_1 a0_2 a0_3 a0_4 a0_5 a0_6 a0_7 a0_8 a0_9 b 0 r w hr0_1 hc0_1 hb (.inl ⟨h0, h⟩)
  · rw [if_neg h0] at h
    by_cases h1 : a0_0 = 0
    · rw [if_pos h1] at h
      exact probe_Rate.way a0_0 A0_1 c0_1 l0_1 a0_2 a0_3 a0_4 a0_5 a0_6 a0_7 a0_8 a0_9 b _ r w hr0_1 hc0_1 hb (.inr ⟨h, h0, .inl ⟨h1, rfl⟩⟩)
    · rw [if_neg h1] at h
      by_cases h2 : a0_0 = 1
      · rw [if_pos h2] at h
        exact probe_Rate.way a0_0 A0_1 c0_1 l0_1 a0_2 a0_3 a0_4 a0_5 a0_6 a0_7 a0_8 a0_9 b _ r w hr0_1 hc0_1 hb (.inr ⟨h, h0, .inr (.inl ⟨h2, rfl⟩)⟩)
      · rw [if_neg h2] at h
        by_cases h3 : a0_0 = 2
        · rw [if_pos h3] at h
          by_cases hp : 0 ≤ a0_7
          · rw [if_pos hp] at h
            by_cases h4 : a0_7 % 8 = 0
            · rw [if_pos h4] at h
              exact probe_Rate.cyc a0_0 A0_1 c0_1 l0_1 a0_2 a0_3 a0_4 a0_5 a0_6 a0_7 a0_8 a0_9 b _ r w hr0_1 hc0_1 hb h0 h3 hp h (by omega)
            · rw [if_neg h4] at h
              by_cases h5 : a0_7 % 8 = 1
              · rw [if_pos h5] at h
                exact probe_Rate.cyc a0_0 A0_1 c0_1 l0_1 a0_2 a0_3 a0_4 a0_5 a0_6 a0_7 a0_8 a0_9 b _ r w hr0_1 hc0_1 hb h0 h3 hp h (by omega)
              · rw [if_neg h5] at h
                exact probe_Rate.cyc a0_0 A0_1 c0_1 l0_1 a0_2 a0_3 a0_4 a0_5 a0_6 a0_7 a0_8 a0_9 b _ r w hr0_1 hc0_1 hb h0 h3 hp h (by omega)
          · rw [if_neg hp] at h
            cases h
        · rw [if_neg h3] at h
          exact probe_Rate.way a0_0 A0_1 c0_1 l0_1 a0_2 a0_3 a0_4 a0_5 a0_6 a0_7 a0_8 a0_9 b _ r w hr0_1 hc0_1 hb (.inr ⟨h, h0, .inr (.inr ⟨h1, h2, h3, rfl⟩)⟩)


end Go.Proofs.Ytoanhimhomgjmaa.PPrO
