-- Written by a program of this session (wip/tools/xprint.py) for this claim.
import Derived.Test.YtpgffmnbdggpnaaPCtlx0
import Derived.Test.YtpgffmnbdggpnaaPCtlx6
import Derived.Test.YtpgffmnbdggpnaaPCtlx7
namespace Go.Proofs.Ytpgffmnbdggpnaa.PCtl
open Go.RowKit Go.Proofs.YtpgffmnbdggpnaaW.PrintWords Go.Proofs.YtpgffmnbdggpnaaW.PrintLast Go.Proofs.YtpgffmnbdggpnaaW.PrintMore
attribute [local go_sem] max2_int min2_int max_two min_two max_three min_three max_four min_four   -- for this text's walks alone
set_option linter.unusedVariables false
set_option linter.unusedSimpArgs false

-- NOT PRINTED: function 36 (control_parts)

-- NOT PRINTED: function 15 (control_Window)

/-! ### probe_Rate: function 19 -/
def probe_Rate.f (a0_0 : Int) (l0_1 : List (S90)) (_ _ _ _ _ a0_7 _ _ : Int) : Option Int := (filt_Best.f l0_1).bind fun b => if b = 0 then fix_MulDivT.f 12000 1000 333 else if a0_0 = 0 then fix_Gain.f b 739 else if a0_0 = 1 then fix_Gain.f b 89 else if a0_0 = 2 then (if 0 ≤ a0_7 then (if a0_7 % 8 = 0 then fix_Gain.f b 320 else if a0_7 % 8 = 1 then fix_Gain.f b 192 else fix_Gain.f b 256) else none) else fix_Gain.f b 256
set_option maxHeartbeats 4000000 in
theorem probe_Rate.way (a0_0 : Int) (A0_1 : Option Addr) (c0_1 : Nat) (l0_1 : List (S90)) (a0_2 : Int) (a0_3 : Int) (a0_4 : Int) (a0_5 : Int) (a0_6 : Int) (a0_7 : Int) (a0_8 : Int) (a0_9 : Int) (b K : Int) (r : Int) (w : World) (hr0_1 : Kd.C k90 w A0_1 l0_1.length l0_1) (hc0_1 : l0_1.length ≤ c0_1) (hb : filt_Best.f l0_1 = some b)
    (h : b = 0 ∧ fix_MulDivT.f 12000 1000 333 = some r ∨ fix_Gain.f b K = some r ∧ b ≠ 0 ∧ (a0_0 = 0 ∧ K = 739 ∨ a0_0 = 1 ∧ K = 89 ∨ a0_0 ≠ 0 ∧ a0_0 ≠ 1 ∧ a0_0 ≠ 2 ∧ K = 256)) :
    Calls Try.prog 19 #[.agg #[.int .i64 a0_0, .slice A0_1 l0_1.length c0_1, .int .u64 a0_2, .int .u64 a0_3, .int .u64 a0_4, .int .u64 a0_5, .int .u64 a0_6, .int .u64 a0_7, .int .u64 a0_8, .int .u64 a0_9]] w fun e w' => e = .returned (.int .u64 r) ∧ Below w.heap.size w w' := by
  have hu := Try.underlying32
  rcases h with ⟨h0, hm⟩ | ⟨hg, h0, ⟨h1, hK⟩ | ⟨h1, hK⟩ | ⟨h1, h2, h3, hK⟩⟩
  · have d0 : (b == 0) = true := by simp [h0]
    go_enter Try.func19, Try.ntmps19
    go_wp2_with (first | ((go_at_call 45); (with_reducible refine (filt_Best.calls _ _ l0_1 b _ (Kd.C_below hr0_1 ?kb) hc0_1 hb).mono ?_); (case kb => repeat (first | (with_reducible exact Below.refl _ _) | (with_reducible refine below_set ?_ (by simp)) | (with_reducible apply pw_below_drewN) | (with_reducible apply below_alloc))); rintro e w' ⟨rfl, ⟨nd, rfl⟩⟩) | ((go_at_call 20); (with_reducible refine (fix_MulDivT.calls _ _ _ r _ hm).mono ?_); rintro e w' ⟨rfl, ⟨nd, rfl⟩⟩))
    refine bodyPost_ret (v := .int .u64 r) (by simp [results, Try.results19, go_sem]) rfl ⟨rfl, ?_⟩
    repeat (first | (with_reducible exact Below.refl _ _) | (with_reducible refine below_set ?_ (by simp)) | (with_reducible apply pw_below_drewN) | (with_reducible apply below_alloc))
  · subst hK
    have d0 : (b == 0) = false := by simp [h0]
    have d1 : (a0_0 == 0) = true := by simp [h1]
    go_enter Try.func19, Try.ntmps19
    go_wp2_with (first | ((go_at_call 45); (with_reducible refine (filt_Best.calls _ _ l0_1 b _ (Kd.C_below hr0_1 ?kb) hc0_1 hb).mono ?_); (case kb => repeat (first | (with_reducible exact Below.refl _ _) | (with_reducible refine below_set ?_ (by simp)) | (with_reducible apply pw_below_drewN) | (with_reducible apply below_alloc))); rintro e w' ⟨rfl, ⟨nd, rfl⟩⟩) | ((go_at_call 46); (with_reducible refine (fix_Gain.calls _ _ r _ hg).mono ?_); rintro e w' ⟨rfl, ⟨nd, rfl⟩⟩))
    refine bodyPost_ret (v := .int .u64 r) (by simp [results, Try.results19, go_sem]) rfl ⟨rfl, ?_⟩
    repeat (first | (with_reducible exact Below.refl _ _) | (with_reducible refine below_set ?_ (by simp)) | (with_reducible apply pw_below_drewN) | (with_reducible apply below_alloc))
  · subst hK
    have d0 : (b == 0) = false := by simp [h0]
    have d1 : (a0_0 == 0) = false := by simp [h1]
    have d2 : (a0_0 == 1) = true := by simp [h1]
    go_enter Try.func19, Try.ntmps19
    go_wp2_with (first | ((go_at_call 45); (with_reducible refine (filt_Best.calls _ _ l0_1 b _ (Kd.C_below hr0_1 ?kb) hc0_1 hb).mono ?_); (case kb => repeat (first | (with_reducible exact Below.refl _ _) | (with_reducible refine below_set ?_ (by simp)) | (with_reducible apply pw_below_drewN) | (with_reducible apply below_alloc))); rintro e w' ⟨rfl, ⟨nd, rfl⟩⟩) | ((go_at_call 46); (with_reducible refine (fix_Gain.calls _ _ r _ hg).mono ?_); rintro e w' ⟨rfl, ⟨nd, rfl⟩⟩))
    refine bodyPost_ret (v := .int .u64 r) (by simp [results, Try.results19, go_sem]) rfl ⟨rfl, ?_⟩
    repeat (first | (with_reducible exact Below.refl _ _) | (with_reducible refine below_set ?_ (by simp)) | (with_reducible apply pw_below_drewN) | (with_reducible apply below_alloc))
  · subst hK
    have d0 : (b == 0) = false := by simp [h0]
    have d1 : (a0_0 == 0) = false := by simp [h1]
    have d2 : (a0_0 == 1) = false := by simp [h2]
    have d3 : (a0_0 == 2) = false := by simp [h3]
    go_enter Try.func19, Try.ntmps19
    go_wp2_with (first | ((go_at_call 45); (with_reducible refine (filt_Best.calls _ _ l0_1 b _ (Kd.C_below hr0_1 ?kb) hc0_1 hb).mono ?_); (case kb => repeat (first | (with_reducible exact Below.refl _ _) | (with_reducible refine below_set ?_ (by simp)) | (with_reducible apply pw_below_drewN) | (with_reducible apply below_alloc))); rintro e w' ⟨rfl, ⟨nd, rfl⟩⟩) | ((go_at_call 46); (with_reducible refine (fix_Gain.calls _ _ r _ hg).mono ?_); rintro e w' ⟨rfl, ⟨nd, rfl⟩⟩))
    refine bodyPost_ret (v := .int .u64 r) (by simp [results, Try.results19, go_sem]) rfl ⟨rfl, ?_⟩
    repeat (first | (with_reducible exact Below.refl _ _) | (with_reducible refine below_set ?_ (by simp)) | (with_reducible apply pw_below_drewN) | (with_reducible apply below_alloc))
set_option maxHeartbeats 8000000 in
theorem probe_Rate.cyc (a0_0 : Int) (A0_1 : Option Addr) (c0_1 : Nat) (l0_1 : List (S90)) (a0_2 : Int) (a0_3 : Int) (a0_4 : Int) (a0_5 : Int) (a0_6 : Int) (a0_7 : Int) (a0_8 : Int) (a0_9 : Int) (b K : Int) (r : Int) (w : World) (hr0_1 : Kd.C k90 w A0_1 l0_1.length l0_1) (hc0_1 : l0_1.length ≤ c0_1) (hb : filt_Best.f l0_1 = some b) (h0 : b ≠ 0) (h1 : a0_0 = 2) (hp : 0 ≤ a0_7) (hg : fix_Gain.f b K = some r)
    (h : a0_7 % 8 = 0 ∧ K = 320 ∨ a0_7 % 8 = 1 ∧ K = 192 ∨ a0_7 % 8 = 2 ∧ K = 256 ∨ a0_7 % 8 = 3 ∧ K = 256 ∨ a0_7 % 8 = 4 ∧ K = 256 ∨ a0_7 % 8 = 5 ∧ K = 256 ∨ a0_7 % 8 = 6 ∧ K = 256 ∨ a0_7 % 8 = 7 ∧ K = 256) :
    Calls Try.prog 19 #[.agg #[.int .i64 a0_0, .slice A0_1 l0_1.length c0_1, .int .u64 a0_2, .int .u64 a0_3, .int .u64 a0_4, .int .u64 a0_5, .int .u64 a0_6, .int .u64 a0_7, .int .u64 a0_8, .int .u64 a0_9]] w fun e w' => e = .returned (.int .u64 r) ∧ Below w.heap.size w w' := by
  have hu := Try.underlying32
  have d0 : (b == 0) = false := by simp [h0]
  have d1 : (a0_0 == 0) = false := by simp [h1]
  have d2 : (a0_0 == 1) = false := by simp [h1]
  have d3 : (a0_0 == 2) = true := by simp [h1]
  rcases h with ⟨h, hK⟩ | ⟨h, hK⟩ | ⟨h, hK⟩ | ⟨h, hK⟩ | ⟨h, hK⟩ | ⟨h, hK⟩ | ⟨h, hK⟩ | ⟨h, hK⟩ <;> (
    have e8 := (Int.tmod_eq_emod_of_nonneg (b := 8) hp).trans h
    subst hK
    clear hp h
    go_enter Try.func19, Try.ntmps19
    go_wp2_with (first | ((go_at_call 45); (with_reducible refine (filt_Best.calls _ _ l0_1 b _ (Kd.C_below hr0_1 ?kb) hc0_1 hb).mono ?_); (case kb => repeat (first | (with_reducible exact Below.refl _ _) | (with_reducible refine below_set ?_ (by simp)) | (with_reducible apply pw_below_drewN) | (with_reducible apply below_alloc))); rintro e w' ⟨rfl, ⟨nd, rfl⟩⟩) | ((go_at_call 46); (with_reducible refine (fix_Gain.calls _ _ r _ hg).mono ?_); rintro e w' ⟨rfl, ⟨nd, rfl⟩⟩))
    refine bodyPost_ret (v := .int .u64 r) (by simp [results, Try.results19, go_sem]) rfl ⟨rfl, ?_⟩
    repeat (first | (with_reducible exact Below.refl _ _) | (with_reducible refine below_set ?_ (by simp)) | (with_reducible apply pw_below_drewN) | (with_reducible apply below_alloc)))
theorem probe_Rate.calls (a0_0 : Int) (A0_1 : Option Addr) (c0_1 : Nat) (l0_1 : List (S90)) (a0_2 : Int) (a0_3 : Int) (a0_4 : Int) (a0_5 : Int) (a0_6 : Int) (a0_7 : Int) (a0_8 : Int) (a0_9 : Int) (r : Int) (w : World) (hr0_1 : Kd.C k90 w A0_1 l0_1.length l0_1) (hc0_1 : l0_1.length ≤ c0_1) (h : probe_Rate.f a0_0 l0_1 a0_2 a0_3 a0_4 a0_5 a0_6 a0_7 a0_8 a0_9 = some r) :
    Calls Try.prog 19 #[.agg #[.int .i64 a0_0, .slice A0_1 l0_1.length c0_1, .int .u64 a0_2, .int .u64 a0_3, .int .u64 a0_4, .int .u64 a0_5, .int .u64 a0_6, .int .u64 a0_7, .int .u64 a0_8, .int .u64 a0_9]] w fun e w' => e = .returned (.int .u64 r) ∧ Below w.heap.size w w' := by
  unfold probe_Rate.f at h
  obtain ⟨b, hb, h⟩ := Option.bind_eq_some_iff.mp h
  by_cases h0 : b = 0
  · rw [if_pos h0] at h
    exact probe_Rate.way a0_0 A0_1 c0_1 l0_1 a0_2 a0_3 a0_4 a0_5 a0_6 a0_7 a0_8 a0_9 b 0 r w hr0_1 hc0_1 hb (.inl ⟨h0, h⟩)
  · rw [if_neg h0] at h
    by_cases h1 : a0_0 = 0
    · rw [if_pos h1] at h
      exact probe_Rate.way a0_0 A0_1 c0_1 l0_1 a0_2 a0_3 a0_4 a0_5 a0_6 a0_7 a0_8 a0_9 b _ r w hr0_1 hc0_1 hb (.inr ⟨h, h0, .inl ⟨h1, rfl⟩⟩)
    · rw [if_neg h1] at h
      by_cases h2 : a0_0 = 1
      · rw [if_pos h2] at h
        exact probe_Rate.way a0_0 A0_1 c0_1 l0_1 a0_2 a0_3 a0_4 a0_5 a0_6 a0_7 a0_8 a0_9 b _ r w hr0_1 hc0_1 hb (.inr ⟨h, h0, .inr (.inl ⟨h2, rfl⟩)⟩)
      · rw [if_neg h2] at h
        by_cases h3 : a0_0 = 2
        · rw [if_pos h3] at h
          by_cases hp : 0 ≤ a0_7
          · rw [if_pos hp] at h
            by_cases h4 : a0_7 % 8 = 0
            · rw [if_pos h4] at h
              exact probe_Rate.cyc a0_0 A0_1 c0_1 l0_1 a0_2 a0_3 a0_4 a0_5 a0_6 a0_7 a0_8 a0_9 b _ r w hr0_1 hc0_1 hb h0 h3 hp h (by omega)
            · rw [if_neg h4] at h
              by_cases h5 : a0_7 % 8 = 1
              · rw [if_pos h5] at h
                exact probe_Rate.cyc a0_0 A0_1 c0_1 l0_1 a0_2 a0_3 a0_4 a0_5 a0_6 a0_7 a0_8 a0_9 b _ r w hr0_1 hc0_1 hb h0 h3 hp h (by omega)
              · rw [if_neg h5] at h
                exact probe_Rate.cyc a0_0 A0_1 c0_1 l0_1 a0_2 a0_3 a0_4 a0_5 a0_6 a0_7 a0_8 a0_9 b _ r w hr0_1 hc0_1 hb h0 h3 hp h (by omega)
          · rw [if_neg hp] at h
            cases h
        · rw [if_neg h3] at h
          exact probe_Rate.way a0_0 A0_1 c0_1 l0_1 a0_2 a0_3 a0_4 a0_5 a0_6 a0_7 a0_8 a0_9 b _ r w hr0_1 hc0_1 hb (.inr ⟨h, h0, .inr (.inr ⟨h1, h2, h3, rfl⟩)⟩)


-- NOT PRINTED: function 9 (control_Rate)

/-! ### hystart_New: function 30 -/
def hystart_New.f (a0 : Int) : Option (Int × Int × Int × Int × Int × Int × Int) := some (0, a0, 18446744073709551615, 18446744073709551615, 0, 18446744073709551615, 0)
set_option maxHeartbeats 8000000 in
set_option maxRecDepth 100000 in
theorem hystart_New.calls (a0 : Int) (r1 : Int) (r2 : Int) (r3 : Int) (r4 : Int) (r5 : Int) (r6 : Int) (r7 : Int) (w : World) (h : hystart_New.f a0 = some (r1, r2, r3, r4, r5, r6, r7)) :
    Calls Try.prog 30 #[.int .u64 a0] w fun e w' => e = .returned (.agg #[.int .i64 r1, .int .u64 r2, .int .u64 r3, .int .u64 r4, .int .u64 r5, .int .u64 r6, .int .u64 r7]) ∧ Below w.heap.size w w' := by
  have hu27 := Try.underlying27
  have HB := Aside0.mk (Below.refl w.heap.size w)
  have H : (some (0, a0, 18446744073709551615, 18446744073709551615, 0, 18446744073709551615, 0)) = some (r1, r2, r3, r4, r5, r6, r7) := h
  clear h
  simp only [Option.some.injEq, Prod.mk.injEq] at H
  obtain ⟨rfl, rfl, rfl, rfl, rfl, rfl, rfl⟩ := H
  go_enter Try.func30, Try.ntmps30
  go_wp2_with (first | ((with_reducible refine gate_dst (N := 2) rfl ?_); refine box_event ?hg (N := 2) ?hd (cs := #[.int .i64 0, .int .u64 0, .int .u64 0, .int .u64 0, .int .u64 0, .int .u64 0, .int .u64 0]) (t := 27) ?hr ?_; (case hd => rfl); (case hg => rfl); (case hr => first | (go_simp; done) | (go_simp; rfl)); intro gb122 hg w2 hbox hb; have n0_ := Aside0.mk (below_step (by repeat (first | (with_reducible first | exact HB.out | apply below_alloc | apply pw_below_drewN | apply below_drew1) | exact HB.out)) hb); have n1_ := Aside0.mk (hbox); have n2_ := Aside0.mk ((by rw [hg]; exact (below_size (by repeat (first | (with_reducible first | exact HB.out | apply below_alloc | apply pw_below_drewN | apply below_drew1) | exact HB.out))) : w.heap.size ≤ gb122)); have n3_ := Aside0.mk ((by rw [hg]; exact (below_size (by repeat (first | (with_reducible first | exact HB.out | apply below_alloc | apply pw_below_drewN | apply below_drew1) | exact HB.out))) : w.heap.size ≤ gb122)); clear HB; have HB := n0_; have BK122 := n1_; have GW122 := n2_; have GE122 := n3_; clear n0_ n1_ n2_ n3_; clear hb hbox hg; have hcz3_0 : w2.cell? ⟨gb122, 0, none⟩ = some (.int .i64 0) := (blk_cell BK122.out 0).trans rfl; have hcz3_1 : w2.cell? ⟨gb122, 1, none⟩ = some (.int .u64 0) := (blk_cell BK122.out 1).trans rfl; have hcz3_2 : w2.cell? ⟨gb122, 2, none⟩ = some (.int .u64 0) := (blk_cell BK122.out 2).trans rfl; have hcz3_3 : w2.cell? ⟨gb122, 3, none⟩ = some (.int .u64 0) := (blk_cell BK122.out 3).trans rfl; have hcz3_4 : w2.cell? ⟨gb122, 4, none⟩ = some (.int .u64 0) := (blk_cell BK122.out 4).trans rfl; have hcz3_5 : w2.cell? ⟨gb122, 5, none⟩ = some (.int .u64 0) := (blk_cell BK122.out 5).trans rfl; have hcz3_6 : w2.cell? ⟨gb122, 6, none⟩ = some (.int .u64 0) := (blk_cell BK122.out 6).trans rfl; have hfz3_0 := blk_frozen BK122.out 0; have hfz3_1 := blk_frozen BK122.out 1; have hfz3_2 := blk_frozen BK122.out 2; have hfz3_3 := blk_frozen BK122.out 3; have hfz3_4 := blk_frozen BK122.out 4; have hfz3_5 := blk_frozen BK122.out 5; have hfz3_6 := blk_frozen BK122.out 6))
  refine bodyPost_ret (results_cell_row rfl _ _ gb122 27 #[.int .i64 0, .int .u64 a0, .int .u64 18446744073709551615, .int .u64 18446744073709551615, .int .u64 0, .int .u64 18446744073709551615, .int .u64 0] (0, 0) _ rfl (by (with_reducible repeat (first | refine blk_drewN ?_ _ | refine blk_drew ?_ | refine blk_alloc ?_ _)); refine blk_put (cs := #[.int .i64 0, .int .u64 a0, .int .u64 18446744073709551615, .int .u64 18446744073709551615, .int .u64 0, .int .u64 18446744073709551615, .int .u64 0]) ?_ 6 _ rfl; (with_reducible repeat (first | refine blk_drewN ?_ _ | refine blk_drew ?_ | refine blk_alloc ?_ _)); refine blk_put (cs := #[.int .i64 0, .int .u64 a0, .int .u64 18446744073709551615, .int .u64 18446744073709551615, .int .u64 0, .int .u64 0, .int .u64 0]) ?_ 5 _ rfl; (with_reducible repeat (first | refine blk_drewN ?_ _ | refine blk_drew ?_ | refine blk_alloc ?_ _)); refine blk_put (cs := #[.int .i64 0, .int .u64 a0, .int .u64 18446744073709551615, .int .u64 18446744073709551615, .int .u64 0, .int .u64 0, .int .u64 0]) ?_ 4 _ rfl; (with_reducible repeat (first | refine blk_drewN ?_ _ | refine blk_drew ?_ | refine blk_alloc ?_ _)); refine blk_put (cs := #[.int .i64 0, .int .u64 a0, .int .u64 18446744073709551615, .int .u64 0, .int .u64 0, .int .u64 0, .int .u64 0]) ?_ 3 _ rfl; (with_reducible repeat (first | refine blk_drewN ?_ _ | refine blk_drew ?_ | refine blk_alloc ?_ _)); refine blk_put (cs := #[.int .i64 0, .int .u64 a0, .int .u64 0, .int .u64 0, .int .u64 0, .int .u64 0, .int .u64 0]) ?_ 2 _ rfl; (with_reducible repeat (first | refine blk_drewN ?_ _ | refine blk_drew ?_ | refine blk_alloc ?_ _)); refine blk_put (cs := #[.int .i64 0, .int .u64 0, .int .u64 0, .int .u64 0, .int .u64 0, .int .u64 0, .int .u64 0]) ?_ 1 _ rfl; (with_reducible repeat (first | refine blk_drewN ?_ _ | refine blk_drew ?_ | refine blk_alloc ?_ _)); refine blk_put (cs := #[.int .i64 0, .int .u64 0, .int .u64 0, .int .u64 0, .int .u64 0, .int .u64 0, .int .u64 0]) ?_ 0 _ rfl; (with_reducible repeat (first | refine blk_drewN ?_ _ | refine blk_drew ?_ | refine blk_alloc ?_ _)); exact BK122.out) Try.underlying27 rfl (by kernel_rfl)) rfl ?_
  exact ⟨by first | rfl | (simp [errW_none, errW_some] <;> rfl) | (simp [*, errW_none, errW_some] <;> rfl), by repeat (first | (with_reducible first | exact HB.out | apply below_alloc | apply pw_below_drewN | apply below_drew1 | refine below_set ?_ GE122.out) | exact HB.out)⟩

/-! ### reno_New: function 31 -/
def reno_New.f  : Option (Int × Int × Int × Int) := some (12000, 16777216, 0, 0)
set_option maxHeartbeats 8000000 in
set_option maxRecDepth 100000 in
theorem reno_New.calls  (r1 : Int) (r2 : Int) (r3 : Int) (r4 : Int) (w : World) (h : reno_New.f  = some (r1, r2, r3, r4)) :
    Calls Try.prog 31 #[] w fun e w' => e = .returned (.agg #[.int .u64 r1, .int .u64 r2, .int .u64 r3, .int .u64 r4]) ∧ Below w.heap.size w w' := by
  have hu25 := Try.underlying25
  have HB := Aside0.mk (Below.refl w.heap.size w)
  have H : (some (12000, 16777216, 0, 0)) = some (r1, r2, r3, r4) := h
  clear h
  simp only [Option.some.injEq, Prod.mk.injEq] at H
  obtain ⟨rfl, rfl, rfl, rfl⟩ := H
  go_enter Try.func31, Try.ntmps31
  go_wp2_with (first | ((with_reducible refine gate_dst (N := 0) rfl ?_); refine box_event ?hg (N := 0) ?hd (cs := #[.int .u64 0, .int .u64 0, .int .u64 0, .int .u64 0]) (t := 25) ?hr ?_; (case hd => rfl); (case hg => rfl); (case hr => first | (go_simp; done) | (go_simp; rfl)); intro gb123 hg w1 hbox hb; have n0_ := Aside0.mk (below_step (by repeat (first | (with_reducible first | exact HB.out | apply below_alloc | apply pw_below_drewN | apply below_drew1) | exact HB.out)) hb); have n1_ := Aside0.mk (hbox); have n2_ := Aside0.mk ((by rw [hg]; exact (below_size (by repeat (first | (with_reducible first | exact HB.out | apply below_alloc | apply pw_below_drewN | apply below_drew1) | exact HB.out))) : w.heap.size ≤ gb123)); have n3_ := Aside0.mk ((by rw [hg]; exact (below_size (by repeat (first | (with_reducible first | exact HB.out | apply below_alloc | apply pw_below_drewN | apply below_drew1) | exact HB.out))) : w.heap.size ≤ gb123)); clear HB; have HB := n0_; have BK123 := n1_; have GW123 := n2_; have GE123 := n3_; clear n0_ n1_ n2_ n3_; clear hb hbox hg; have hcz2_0 : w1.cell? ⟨gb123, 0, none⟩ = some (.int .u64 0) := (blk_cell BK123.out 0).trans rfl; have hcz2_1 : w1.cell? ⟨gb123, 1, none⟩ = some (.int .u64 0) := (blk_cell BK123.out 1).trans rfl; have hcz2_2 : w1.cell? ⟨gb123, 2, none⟩ = some (.int .u64 0) := (blk_cell BK123.out 2).trans rfl; have hcz2_3 : w1.cell? ⟨gb123, 3, none⟩ = some (.int .u64 0) := (blk_cell BK123.out 3).trans rfl; have hfz2_0 := blk_frozen BK123.out 0; have hfz2_1 := blk_frozen BK123.out 1; have hfz2_2 := blk_frozen BK123.out 2; have hfz2_3 := blk_frozen BK123.out 3))
  refine bodyPost_ret (results_cell_row rfl _ _ gb123 25 #[.int .u64 12000, .int .u64 16777216, .int .u64 0, .int .u64 0] (0, 0) _ rfl (by (with_reducible repeat (first | refine blk_drewN ?_ _ | refine blk_drew ?_ | refine blk_alloc ?_ _)); refine blk_put (cs := #[.int .u64 12000, .int .u64 16777216, .int .u64 0, .int .u64 0]) ?_ 3 _ rfl; (with_reducible repeat (first | refine blk_drewN ?_ _ | refine blk_drew ?_ | refine blk_alloc ?_ _)); refine blk_put (cs := #[.int .u64 12000, .int .u64 16777216, .int .u64 0, .int .u64 0]) ?_ 2 _ rfl; (with_reducible repeat (first | refine blk_drewN ?_ _ | refine blk_drew ?_ | refine blk_alloc ?_ _)); refine blk_put (cs := #[.int .u64 12000, .int .u64 0, .int .u64 0, .int .u64 0]) ?_ 1 _ rfl; (with_reducible repeat (first | refine blk_drewN ?_ _ | refine blk_drew ?_ | refine blk_alloc ?_ _)); refine blk_put (cs := #[.int .u64 0, .int .u64 0, .int .u64 0, .int .u64 0]) ?_ 0 _ rfl; (with_reducible repeat (first | refine blk_drewN ?_ _ | refine blk_drew ?_ | refine blk_alloc ?_ _)); exact BK123.out) Try.underlying25 rfl (by kernel_rfl)) rfl ?_
  exact ⟨by first | rfl | (simp [errW_none, errW_some] <;> rfl) | (simp [*, errW_none, errW_some] <;> rfl), by repeat (first | (with_reducible first | exact HB.out | apply below_alloc | apply pw_below_drewN | apply below_drew1 | refine below_set ?_ GE123.out) | exact HB.out)⟩

/-! ### cubic_New: function 32 -/
def cubic_New.f  : Option (Int × Int × Int × Bool × Int × Int × Int × Int) := some (12000, 16777216, 0, false, 0, 0, 0, 0)
set_option maxHeartbeats 8000000 in
set_option maxRecDepth 100000 in
theorem cubic_New.calls  (r1 : Int) (r2 : Int) (r3 : Int) (r4 : Bool) (r5 : Int) (r6 : Int) (r7 : Int) (r8 : Int) (w : World) (h : cubic_New.f  = some (r1, r2, r3, r4, r5, r6, r7, r8)) :
    Calls Try.prog 32 #[] w fun e w' => e = .returned (.agg #[.int .u64 r1, .int .u64 r2, .int .u64 r3, .bool r4, .int .u64 r5, .int .u64 r6, .int .u64 r7, .int .u64 r8]) ∧ Below w.heap.size w w' := by
  have hu29 := Try.underlying29
  have HB := Aside0.mk (Below.refl w.heap.size w)
  have H : (some (12000, 16777216, 0, false, 0, 0, 0, 0)) = some (r1, r2, r3, r4, r5, r6, r7, r8) := h
  clear h
  simp only [Option.some.injEq, Prod.mk.injEq] at H
  obtain ⟨rfl, rfl, rfl, rfl, rfl, rfl, rfl, rfl⟩ := H
  go_enter Try.func32, Try.ntmps32
  go_wp2_with (first | ((with_reducible refine gate_dst (N := 0) rfl ?_); refine box_event ?hg (N := 0) ?hd (cs := #[.int .u64 0, .int .u64 0, .int .u64 0, .bool false, .int .u64 0, .int .u64 0, .int .u64 0, .int .u64 0]) (t := 29) ?hr ?_; (case hd => rfl); (case hg => rfl); (case hr => first | (go_simp; done) | (go_simp; rfl)); intro gb124 hg w1 hbox hb; have n0_ := Aside0.mk (below_step (by repeat (first | (with_reducible first | exact HB.out | apply below_alloc | apply pw_below_drewN | apply below_drew1) | exact HB.out)) hb); have n1_ := Aside0.mk (hbox); have n2_ := Aside0.mk ((by rw [hg]; exact (below_size (by repeat (first | (with_reducible first | exact HB.out | apply below_alloc | apply pw_below_drewN | apply below_drew1) | exact HB.out))) : w.heap.size ≤ gb124)); have n3_ := Aside0.mk ((by rw [hg]; exact (below_size (by repeat (first | (with_reducible first | exact HB.out | apply below_alloc | apply pw_below_drewN | apply below_drew1) | exact HB.out))) : w.heap.size ≤ gb124)); clear HB; have HB := n0_; have BK124 := n1_; have GW124 := n2_; have GE124 := n3_; clear n0_ n1_ n2_ n3_; clear hb hbox hg; have hcz2_0 : w1.cell? ⟨gb124, 0, none⟩ = some (.int .u64 0) := (blk_cell BK124.out 0).trans rfl; have hcz2_1 : w1.cell? ⟨gb124, 1, none⟩ = some (.int .u64 0) := (blk_cell BK124.out 1).trans rfl; have hcz2_2 : w1.cell? ⟨gb124, 2, none⟩ = some (.int .u64 0) := (blk_cell BK124.out 2).trans rfl; have hcz2_3 : w1.cell? ⟨gb124, 3, none⟩ = some (.bool false) := (blk_cell BK124.out 3).trans rfl; have hcz2_4 : w1.cell? ⟨gb124, 4, none⟩ = some (.int .u64 0) := (blk_cell BK124.out 4).trans rfl; have hcz2_5 : w1.cell? ⟨gb124, 5, none⟩ = some (.int .u64 0) := (blk_cell BK124.out 5).trans rfl; have hcz2_6 : w1.cell? ⟨gb124, 6, none⟩ = some (.int .u64 0) := (blk_cell BK124.out 6).trans rfl; have hcz2_7 : w1.cell? ⟨gb124, 7, none⟩ = some (.int .u64 0) := (blk_cell BK124.out 7).trans rfl; have hfz2_0 := blk_frozen BK124.out 0; have hfz2_1 := blk_frozen BK124.out 1; have hfz2_2 := blk_frozen BK124.out 2; have hfz2_3 := blk_frozen BK124.out 3; have hfz2_4 := blk_frozen BK124.out 4; have hfz2_5 := blk_frozen BK124.out 5; have hfz2_6 := blk_frozen BK124.out 6; have hfz2_7 := blk_frozen BK124.out 7))
  refine bodyPost_ret (results_cell_row rfl _ _ gb124 29 #[.int .u64 12000, .int .u64 16777216, .int .u64 0, .bool false, .int .u64 0, .int .u64 0, .int .u64 0, .int .u64 0] (0, 0) _ rfl (by (with_reducible repeat (first | refine blk_drewN ?_ _ | refine blk_drew ?_ | refine blk_alloc ?_ _)); refine blk_put (cs := #[.int .u64 12000, .int .u64 16777216, .int .u64 0, .bool false, .int .u64 0, .int .u64 0, .int .u64 0, .int .u64 0]) ?_ 7 _ rfl; (with_reducible repeat (first | refine blk_drewN ?_ _ | refine blk_drew ?_ | refine blk_alloc ?_ _)); refine blk_put (cs := #[.int .u64 12000, .int .u64 16777216, .int .u64 0, .bool false, .int .u64 0, .int .u64 0, .int .u64 0, .int .u64 0]) ?_ 6 _ rfl; (with_reducible repeat (first | refine blk_drewN ?_ _ | refine blk_drew ?_ | refine blk_alloc ?_ _)); refine blk_put (cs := #[.int .u64 12000, .int .u64 16777216, .int .u64 0, .bool false, .int .u64 0, .int .u64 0, .int .u64 0, .int .u64 0]) ?_ 5 _ rfl; (with_reducible repeat (first | refine blk_drewN ?_ _ | refine blk_drew ?_ | refine blk_alloc ?_ _)); refine blk_put (cs := #[.int .u64 12000, .int .u64 16777216, .int .u64 0, .bool false, .int .u64 0, .int .u64 0, .int .u64 0, .int .u64 0]) ?_ 4 _ rfl; (with_reducible repeat (first | refine blk_drewN ?_ _ | refine blk_drew ?_ | refine blk_alloc ?_ _)); refine blk_put (cs := #[.int .u64 12000, .int .u64 16777216, .int .u64 0, .bool false, .int .u64 0, .int .u64 0, .int .u64 0, .int .u64 0]) ?_ 3 _ rfl; (with_reducible repeat (first | refine blk_drewN ?_ _ | refine blk_drew ?_ | refine blk_alloc ?_ _)); refine blk_put (cs := #[.int .u64 12000, .int .u64 16777216, .int .u64 0, .bool false, .int .u64 0, .int .u64 0, .int .u64 0, .int .u64 0]) ?_ 2 _ rfl; (with_reducible repeat (first | refine blk_drewN ?_ _ | refine blk_drew ?_ | refine blk_alloc ?_ _)); refine blk_put (cs := #[.int .u64 12000, .int .u64 0, .int .u64 0, .bool false, .int .u64 0, .int .u64 0, .int .u64 0, .int .u64 0]) ?_ 1 _ rfl; (with_reducible repeat (first | refine blk_drewN ?_ _ | refine blk_drew ?_ | refine blk_alloc ?_ _)); refine blk_put (cs := #[.int .u64 0, .int .u64 0, .int .u64 0, .bool false, .int .u64 0, .int .u64 0, .int .u64 0, .int .u64 0]) ?_ 0 _ rfl; (with_reducible repeat (first | refine blk_drewN ?_ _ | refine blk_drew ?_ | refine blk_alloc ?_ _)); exact BK124.out) Try.underlying29 rfl (by kernel_rfl)) rfl ?_
  exact ⟨by first | rfl | (simp [errW_none, errW_some] <;> rfl) | (simp [*, errW_none, errW_some] <;> rfl), by repeat (first | (with_reducible first | exact HB.out | apply below_alloc | apply pw_below_drewN | apply below_drew1 | refine below_set ?_ GE124.out) | exact HB.out)⟩

end Go.Proofs.Ytpgffmnbdggpnaa.PCtl
