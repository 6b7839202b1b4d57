/- Several texts of this claim in one: PPrNx20 PPrNx21 PPrNx22 PPrNx23 PPrNx24 PPrNx14 PPrNx16 PPrNx11 PPrNx12 -/
import Derived.Test.YtoanhimhomgjmaaKA
import Derived.Test.YtoanhimhomgjmaaKB
section
namespace Go.Proofs.Ytoanhimhomgjmaa.PPrN
open Go.RowKit Go.Proofs.YtoanhimhomgjmaaW.PrintWords Go.Proofs.YtoanhimhomgjmaaW.PrintLast Go.Proofs.YtoanhimhomgjmaaW.PrintMore
attribute [local go_sem] max2_int min2_int max_two min_two max_three min_three max_four min_four   -- for this text's walks alone
set_option linter.unusedVariables false
set_option linter.unusedSimpArgs false
def wigwagref02_push.l0 : Nat → List (S52) → Int → Bool → List (S52) → Int → Int → Int → Option ((List (S52)))
  | 0, _, _, _, _, _, _, _ => none
  | k + 1, x0, x1, x3, x9, x10, x218000, x218001 => if x10 < (x0.length : Int) then (if 0 ≤ x10 then ((wigwagref01_AddT.f ((rd_T52 x0 x10).f0) x1).bind fun t219 => (if x3 = true then (if t219 ≥ x218000 then (if ((rd_T52 x0 x10).f1) > x218001 then (if x9.length < 8796093022208 then (wigwagref02_push.l0 k x0 x1 x3 (x9 ++ [(⟨(rd_T52 x0 x10).f0, (rd_T52 x0 x10).f1⟩ : S52)]) (wrap64 (x10 + 1)) x218000 x218001) else (none)) else (wigwagref02_push.l0 k x0 x1 x3 x9 (wrap64 (x10 + 1)) x218000 x218001)) else (wigwagref02_push.l0 k x0 x1 x3 x9 (wrap64 (x10 + 1)) x218000 x218001)) else (if t219 ≥ x218000 then (if ((rd_T52 x0 x10).f1) < x218001 then (if x9.length < 8796093022208 then (wigwagref02_push.l0 k x0 x1 x3 (x9 ++ [(⟨(rd_T52 x0 x10).f0, (rd_T52 x0 x10).f1⟩ : S52)]) (wrap64 (x10 + 1)) x218000 x218001) else (none)) else (wigwagref02_push.l0 k x0 x1 x3 x9 (wrap64 (x10 + 1)) x218000 x218001)) else (wigwagref02_push.l0 k x0 x1 x3 x9 (wrap64 (x10 + 1)) x218000 x218001)))) else (none)) else (if x9.length < 8796093022208 then (some (x9 ++ [(⟨x218000, x218001⟩ : S52)])) else (none))
def wigwagref02_push.f (k : Nat) (l0 : List (S52)) (a1 : Int) (a2_0 : Int) (a2_1 : Int) (a3 : Bool) : Option ((List (S52))) := wigwagref02_push.l0 k l0 a1 a3 ([] : List (S52)) 0 a2_0 a2_1
set_option maxHeartbeats 8000000 in
set_option maxRecDepth 100000 in
theorem wigwagref02_push.calls (k : Nat) (A0 : Option Addr) (c0 : Nat) (l0 : List (S52)) (a1 : Int) (a2_0 : Int) (a2_1 : Int) (a3 : Bool) (r : List (S52)) (w : World) (hr0 : Kd.C k52 w A0 l0.length l0) (hc0 : l0.length ≤ c0) (h : wigwagref02_push.f k l0 a1 a2_0 a2_1 a3 = some r) :
    Calls Try.prog 44 #[.slice A0 l0.length c0, .int .u64 a1, .agg #[.int .u64 a2_0, .int .u64 a2_1], .bool a3] w fun e w' => ∃ v0_ : Value, e = .returned (v0_) ∧ Kd.R k52 52 w' w.heap.size (fun _ => True) v0_ r ∧ Below w.heap.size w w' := by
  have hu52 := Try.underlying52
  have HR0 := Aside0.mk hr0
  have HC0 := Aside0.mk hc0
  clear hr0 hc0
  have HB := Aside0.mk (Below.refl w.heap.size w)
  have H : (wigwagref02_push.l0 k l0 a1 a3 ([] : List (S52)) 0 a2_0 a2_1) = some r := h
  clear h
  have H' := Aside0.mk H
  clear H
  go_enter Try.func44, Try.ntmps44
  go_wp2_with (first | ((with_reducible refine gate_dst (N := 6) rfl ?_); refine box_event ?hg (N := 6) ?hd (cs := #[.int .u64 a2_0, .int .u64 a2_1]) (t := 52) ?hr ?_; (case hd => rfl); (case hg => rfl); (case hr => first | (go_simp; done) | (go_simp; rfl)); intro gb217 hg w5 hbox hb; have n0_ := Aside0.mk (below_step (by repeat (first | (with_reducible first | exact HB.out | apply below_alloc | apply pw_below_drewN | apply below_drew1) | exact HB.out)) hb); have n1_ := Aside0.mk (hbox); have n2_ := Aside0.mk ((by rw [hg]; exact (below_size (by repeat (first | (with_reducible first | exact HB.out | apply below_alloc | apply pw_below_drewN | apply below_drew1) | exact HB.out))) : w.heap.size ≤ gb217)); have n3_ := Aside0.mk ((by rw [hg]; exact (below_size (by repeat (first | (with_reducible first | exact HB.out | apply below_alloc | apply pw_below_drewN | apply below_drew1) | exact HB.out))) : w.heap.size ≤ gb217)); clear HB; have HB := n0_; have BK217 := n1_; have GW217 := n2_; have GE217 := n3_; clear n0_ n1_ n2_ n3_; clear hb hbox hg))
  repeat (go_quiet (first | ((with_reducible refine gate_dst (N := 6) rfl ?_); refine box_event ?hg (N := 6) ?hd (cs := #[.int .u64 a2_0, .int .u64 a2_1]) (t := 52) ?hr ?_; (case hd => rfl); (case hg => rfl); (case hr => first | (go_simp; done) | (go_simp; rfl)); intro gb217 hg w5 hbox hb; have n0_ := Aside0.mk (below_step (by repeat (first | (with_reducible first | exact HB.out | apply below_alloc | apply pw_below_drewN | apply below_drew1) | exact HB.out)) hb); have n1_ := Aside0.mk (hbox); have n2_ := Aside0.mk ((by rw [hg]; exact (below_size (by repeat (first | (with_reducible first | exact HB.out | apply below_alloc | apply pw_below_drewN | apply below_drew1) | exact HB.out))) : w.heap.size ≤ gb217)); have n3_ := Aside0.mk ((by rw [hg]; exact (below_size (by repeat (first | (with_reducible first | exact HB.out | apply below_alloc | apply pw_below_drewN | apply below_drew1) | exact HB.out))) : w.heap.size ≤ gb217)); clear HB; have HB := n0_; have BK217 := n1_; have GW217 := n2_; have GE217 := n3_; clear n0_ n1_ n2_ n3_; clear hb hbox hg)); try go_wp2_with (first | ((with_reducible refine gate_dst (N := 6) rfl ?_); refine box_event ?hg (N := 6) ?hd (cs := #[.int .u64 a2_0, .int .u64 a2_1]) (t := 52) ?hr ?_; (case hd => rfl); (case hg => rfl); (case hr => first | (go_simp; done) | (go_simp; rfl)); intro gb217 hg w5 hbox hb; have n0_ := Aside0.mk (below_step (by repeat (first | (with_reducible first | exact HB.out | apply below_alloc | apply pw_below_drewN | apply below_drew1) | exact HB.out)) hb); have n1_ := Aside0.mk (hbox); have n2_ := Aside0.mk ((by rw [hg]; exact (below_size (by repeat (first | (with_reducible first | exact HB.out | apply below_alloc | apply pw_below_drewN | apply below_drew1) | exact HB.out))) : w.heap.size ≤ gb217)); have n3_ := Aside0.mk ((by rw [hg]; exact (below_size (by repeat (first | (with_reducible first | exact HB.out | apply below_alloc | apply pw_below_drewN | apply below_drew1) | exact HB.out))) : w.heap.size ≤ gb217)); clear HB; have HB := n0_; have BK217 := n1_; have GW217 := n2_; have GE217 := n3_; clear n0_ n1_ n2_ n3_; clear hb hbox hg)))
  go_loopg [9, 10] k (fun kq v9 v10 w' => ∃ (x9_1 : List (S52)) (x10_1 : Int), v10 = .int .i64 x10_1 ∧ Aside0 (wigwagref02_push.l0 kq l0 a1 a3 x9_1 x10_1 a2_0 a2_1 = some r) ∧ Aside0 (kq ≤ k) ∧ Aside0 (Kd.R k52 52 w' w.heap.size (fun k_ => k_ ≠ gb217) v9 x9_1) ∧ Aside0 (w'.heap[gb217]? = some (.cells #[.int .u64 a2_0, .int .u64 a2_1] 52 (0, 0))) ∧ Aside0 (Below w.heap.size w w'))
  case atStart => exact ⟨(([] : List (S52))), (0), (by first | rfl | (simp; done) | (simp [*]; done)), H', ⟨Nat.le_refl _⟩, ⟨by first | exact Kd.R_nil .. | exact Kd.N_nil .. | exact Kd.V_nil .. | exact Kd.Q_nil .. | exact Kd.S_nil _ _ _ _ _⟩, ⟨by (with_reducible repeat (first | refine blk_drewN ?_ _ | refine blk_drew ?_ | refine blk_alloc ?_ _)); exact BK217.out⟩, ⟨by repeat (first | (with_reducible first | exact HB.out | apply below_alloc | apply pw_below_drewN | apply below_drew1 | refine below_set ?_ GE217.out) | exact HB.out)⟩⟩
  case round =>
    clear H'
    try clear p2
    try clear c4
    obtain ⟨x9_1, x10_1, rfl, HA, HK1, HO_9, BK217, HB⟩ := hrel
    cases gk with
    | zero => exact absurd HA.out (by simp [wigwagref02_push.l0])
    | succ k1 =>
      have H := HA.out
      clear HA
      simp only [wigwagref02_push.l0] at H
      by_cases c6 : x10_1 < (l0.length : Int)
      · rw [if_pos c6] at H
        have c6b0 : decide (x10_1 < (l0.length : Int)) = true := decide_eq_true c6
        clear c6
        by_cases c7 : 0 ≤ x10_1
        · rw [if_pos c7] at H
          have c7b0 : decide (0 ≤ x10_1) = true := decide_eq_true c7
          clear c7
          replace H := Option.bind_eq_some_iff.mp H
          obtain ⟨t219, A80, H⟩ := H
          replace H : (if a3 = true then (if t219 ≥ a2_0 then (if ((rd_T52 l0 x10_1).f1) > a2_1 then (if x9_1.length < 8796093022208 then (wigwagref02_push.l0 k1 l0 a1 a3 (x9_1 ++ [(⟨(rd_T52 l0 x10_1).f0, (rd_T52 l0 x10_1).f1⟩ : S52)]) (wrap64 (x10_1 + 1)) a2_0 a2_1) else (none)) else (wigwagref02_push.l0 k1 l0 a1 a3 x9_1 (wrap64 (x10_1 + 1)) a2_0 a2_1)) else (wigwagref02_push.l0 k1 l0 a1 a3 x9_1 (wrap64 (x10_1 + 1)) a2_0 a2_1)) else (if t219 ≥ a2_0 then (if ((rd_T52 l0 x10_1).f1) < a2_1 then (if x9_1.length < 8796093022208 then (wigwagref02_push.l0 k1 l0 a1 a3 (x9_1 ++ [(⟨(rd_T52 l0 x10_1).f0, (rd_T52 l0 x10_1).f1⟩ : S52)]) (wrap64 (x10_1 + 1)) a2_0 a2_1) else (none)) else (wigwagref02_push.l0 k1 l0 a1 a3 x9_1 (wrap64 (x10_1 + 1)) a2_0 a2_1)) else (wigwagref02_push.l0 k1 l0 a1 a3 x9_1 (wrap64 (x10_1 + 1)) a2_0 a2_1))) = some r := H
          have A8 := Aside0.mk A80
          clear A80
          by_cases c9 : a3 = true
          · subst c9
            have H1 : (if t219 ≥ a2_0 then (if ((rd_T52 l0 x10_1).f1) > a2_1 then (if x9_1.length < 8796093022208 then (wigwagref02_push.l0 k1 l0 a1 true (x9_1 ++ [(⟨(rd_T52 l0 x10_1).f0, (rd_T52 l0 x10_1).f1⟩ : S52)]) (wrap64 (x10_1 + 1)) a2_0 a2_1) else (none)) else (wigwagref02_push.l0 k1 l0 a1 true x9_1 (wrap64 (x10_1 + 1)) a2_0 a2_1)) else (wigwagref02_push.l0 k1 l0 a1 true x9_1 (wrap64 (x10_1 + 1)) a2_0 a2_1)) = some r := by rw [if_pos rfl] at H; exact H
            clear H
            have H := H1
            clear H1
            by_cases c10 : t219 ≥ a2_0
            · rw [if_pos c10] at H
              have c10b0 : decide (a2_0 ≤ t219) = true := decide_eq_true c10
              clear c10
              by_cases c11 : ((rd_T52 l0 x10_1).f1) > a2_1
              · rw [if_pos c11] at H
                have c11b0 : decide (a2_1 < ((rd_T52 l0 x10_1).f1)) = true := decide_eq_true c11
                clear c11
                by_cases c12 : x9_1.length < 8796093022208
                · rw [if_pos c12] at H
                  have LMc12 := Aside0.mk c12
                  clear c12
                  obtain ⟨y223, hy223⟩ : ∃ y_ : List (S52), y_ = (x9_1 ++ [(⟨(rd_T52 l0 x10_1).f0, (rd_T52 l0 x10_1).f1⟩ : S52)]) := ⟨_, rfl⟩
                  replace H : (wigwagref02_push.l0 k1 l0 a1 true y223 (wrap64 (x10_1 + 1)) a2_0 a2_1) = some r := by first | (rw [hy223]; with_reducible exact H) | (have H2_ := (Option.bind_some _ _).symm.trans H; rw [hy223]; with_reducible exact H2_) | (have H2_ := (Option.bind_some _ _).symm.trans H; with_reducible exact H2_) | with_reducible exact H | (rw [hy223]; exact H) | exact H
                  have Ny223 := Aside0.mk hy223
                  clear hy223
                  have H' := Aside0.mk H
                  clear H
                  have p218 : 0 ≤ (x10_1 : Int) := of_decide_eq_true (by first | (with_reducible assumption) | assumption)
                  have q218 : x10_1 < (l0.length : Int) := of_decide_eq_true (by first | (with_reducible assumption) | assumption)
                  obtain ⟨ad218, e218, hx218_0, hx218_1⟩ := at_T52 HR0.out x10_1 p218 q218
                  cases e218
                  replace hx218_0 := (HB.out.cell (World.block_lt_of_cell? w _ hx218_0)).trans hx218_0
                  replace hx218_1 := (HB.out.cell (World.block_lt_of_cell? w _ hx218_1)).trans hx218_1
                  replace p218 := eq_true p218
                  replace q218 := eq_true q218
                  go_wp2_with (first | (go_at_call 30; (with_reducible refine (wigwagref01_AddT.calls ((rd_T52 l0 x10_1).f0) a1 t219 _ A8.out).mono ?_); rintro e w' ⟨rfl, ⟨nd, rfl⟩⟩; (try first | exact ⟨rfl, _, World.drewN_drewN _ _ _⟩ | exact ⟨rfl, _, Eq.trans (World.drewN_drewN ..) (congrArg (World.drewN _) (Nat.add_assoc ..))⟩); have hcz13_0 : wr.cell? ⟨gb217, 0, none⟩ = some (.int .u64 a2_0) := (blk_cell BK217.out 0).trans rfl; have hcz13_1 : wr.cell? ⟨gb217, 1, none⟩ = some (.int .u64 a2_1) := (blk_cell BK217.out 1).trans rfl; have hfz13_0 := blk_frozen BK217.out 0; have hfz13_1 := blk_frozen BK217.out 1; have p220 : 0 ≤ (x10_1 : Int) := of_decide_eq_true (by first | (with_reducible assumption) | assumption); have q220 : x10_1 < (l0.length : Int) := of_decide_eq_true (by first | (with_reducible assumption) | assumption); obtain ⟨ad220, e220, hx220_0, hx220_1⟩ := at_T52 HR0.out x10_1 p220 q220; obtain rfl : ad218 = ad220 := (by injection e220); replace hx220_0 := (HB.out.cell (World.block_lt_of_cell? w _ hx220_0)).trans hx220_0; replace hx220_1 := (HB.out.cell (World.block_lt_of_cell? w _ hx220_1)).trans hx220_1; replace p220 := eq_true p220; replace q220 := eq_true q220; have p221 : 0 ≤ (x10_1 : Int) := of_decide_eq_true (by first | (with_reducible assumption) | assumption); have q221 : x10_1 < (l0.length : Int) := of_decide_eq_true (by first | (with_reducible assumption) | assumption); obtain ⟨ad221, e221, hx221_0, hx221_1⟩ := at_T52 HR0.out x10_1 p221 q221; obtain rfl : ad218 = ad221 := (by injection e221); replace hx221_0 := (HB.out.cell (World.block_lt_of_cell? w _ hx221_0)).trans hx221_0; replace hx221_1 := (HB.out.cell (World.block_lt_of_cell? w _ hx221_1)).trans hx221_1; replace p221 := eq_true p221; replace q221 := eq_true q221; have p222 : 0 ≤ (x10_1 : Int) := of_decide_eq_true (by first | (with_reducible assumption) | assumption); have q222 : x10_1 < (l0.length : Int) := of_decide_eq_true (by first | (with_reducible assumption) | assumption); obtain ⟨ad222, e222, hx222_0, hx222_1⟩ := at_T52 HR0.out x10_1 p222 q222; obtain rfl : ad218 = ad222 := (by injection e222); replace hx222_0 := (HB.out.cell (World.block_lt_of_cell? w _ hx222_0)).trans hx222_0; replace hx222_1 := (HB.out.cell (World.block_lt_of_cell? w _ hx222_1)).trans hx222_1; replace p222 := eq_true p222; replace q222 := eq_true q222) | ((with_reducible refine gate_builtin (b := .append) (xs := #[.tmp 50, .tmp 55]) rfl ?_); at_builtin; refine Kd.R_append k52 (w0 := w) w.heap.size rfl (.tmp 50) (.tmp 55) 23 52 (.agg #[(.int .u64 0), (.int .u64 0)]) 16 rfl Try.underlying23 info52 rfl (by decide) (by omega) u9 x9_1 (⟨(rd_T52 l0 x10_1).f0, (rd_T52 l0 x10_1).f1⟩ : S52) [.int .u64 ((rd_T52 l0 x10_1).f0), .int .u64 ((rd_T52 l0 x10_1).f1)] (fun k_ => k_ ≠ gb217) (fun _ => False) rfl rfl ?aP (fun _ hk => hk.elim) ?aF ?aO ?aB ?aS ?aL ?_; (case aP => exact k52_mkM _ _ _ (⟨(rd_T52 l0 x10_1).f0, (rd_T52 l0 x10_1).f1⟩ : S52)); (case aB => exact (by repeat (first | (with_reducible first | exact HB.out | apply below_alloc | apply pw_below_drewN | apply below_drew1 | refine below_set ?_ GE217.out) | exact HB.out))); (case aF => exact (fun k_ hk => Kd.freshB (g := gb217) (o := .cells #[.int .u64 a2_0, .int .u64 a2_1] 52 (0, 0)) (by (with_reducible repeat (first | refine blk_drewN ?_ _ | refine blk_drew ?_ | refine blk_alloc ?_ _)); exact BK217.out) k_ hk)); (case aO => exact (by (with_reducible repeat (first | apply Kd.R_alloc | apply Kd.R_drewN | apply Kd.R_drew)); exact HO_9.out)); (case aS => exact (below_size (by repeat (first | (with_reducible first | exact HB.out | apply below_alloc | apply pw_below_drewN | apply below_drew1 | refine below_set ?_ GE217.out) | exact HB.out)))); (case aL => have := LMc12.out; omega); intro v224 w14 ho hb hg hat; rw [← Ny223.out] at ho; have n0_ := Aside0.mk (blk_grown (g := gb217) (o := .cells #[.int .u64 a2_0, .int .u64 a2_1] 52 (0, 0)) (by (with_reducible repeat (first | refine blk_drewN ?_ _ | refine blk_drew ?_ | refine blk_alloc ?_ _)); exact BK217.out) hg (Kd.R_away HO_9.out (fun _ hk => hk))); have n1_ := Aside0.mk (hb); have n2_ := Aside0.mk (ho); clear BK217; clear HB; clear HO_9; have BK217 := n0_; have HB := n1_; have HO225 := n2_; clear n0_ n1_ n2_; clear ho hb hg hat))
                  repeat (go_quiet (first | (go_at_call 30; (with_reducible refine (wigwagref01_AddT.calls ((rd_T52 l0 x10_1).f0) a1 t219 _ A8.out).mono ?_); rintro e w' ⟨rfl, ⟨nd, rfl⟩⟩; (try first | exact ⟨rfl, _, World.drewN_drewN _ _ _⟩ | exact ⟨rfl, _, Eq.trans (World.drewN_drewN ..) (congrArg (World.drewN _) (Nat.add_assoc ..))⟩); have hcz13_0 : wr.cell? ⟨gb217, 0, none⟩ = some (.int .u64 a2_0) := (blk_cell BK217.out 0).trans rfl; have hcz13_1 : wr.cell? ⟨gb217, 1, none⟩ = some (.int .u64 a2_1) := (blk_cell BK217.out 1).trans rfl; have hfz13_0 := blk_frozen BK217.out 0; have hfz13_1 := blk_frozen BK217.out 1; have p220 : 0 ≤ (x10_1 : Int) := of_decide_eq_true (by first | (with_reducible assumption) | assumption); have q220 : x10_1 < (l0.length : Int) := of_decide_eq_true (by first | (with_reducible assumption) | assumption); obtain ⟨ad220, e220, hx220_0, hx220_1⟩ := at_T52 HR0.out x10_1 p220 q220; obtain rfl : ad218 = ad220 := (by injection e220); replace hx220_0 := (HB.out.cell (World.block_lt_of_cell? w _ hx220_0)).trans hx220_0; replace hx220_1 := (HB.out.cell (World.block_lt_of_cell? w _ hx220_1)).trans hx220_1; replace p220 := eq_true p220; replace q220 := eq_true q220; have p221 : 0 ≤ (x10_1 : Int) := of_decide_eq_true (by first | (with_reducible assumption) | assumption); have q221 : x10_1 < (l0.length : Int) := of_decide_eq_true (by first | (with_reducible assumption) | assumption); obtain ⟨ad221, e221, hx221_0, hx221_1⟩ := at_T52 HR0.out x10_1 p221 q221; obtain rfl : ad218 = ad221 := (by injection e221); replace hx221_0 := (HB.out.cell (World.block_lt_of_cell? w _ hx221_0)).trans hx221_0; replace hx221_1 := (HB.out.cell (World.block_lt_of_cell? w _ hx221_1)).trans hx221_1; replace p221 := eq_true p221; replace q221 := eq_true q221; have p222 : 0 ≤ (x10_1 : Int) := of_decide_eq_true (by first | (with_reducible assumption) | assumption); have q222 : x10_1 < (l0.length : Int) := of_decide_eq_true (by first | (with_reducible assumption) | assumption); obtain ⟨ad222, e222, hx222_0, hx222_1⟩ := at_T52 HR0.out x10_1 p222 q222; obtain rfl : ad218 = ad222 := (by injection e222); replace hx222_0 := (HB.out.cell (World.block_lt_of_cell? w _ hx222_0)).trans hx222_0; replace hx222_1 := (HB.out.cell (World.block_lt_of_cell? w _ hx222_1)).trans hx222_1; replace p222 := eq_true p222; replace q222 := eq_true q222) | ((with_reducible refine gate_builtin (b := .append) (xs := #[.tmp 50, .tmp 55]) rfl ?_); at_builtin; refine Kd.R_append k52 (w0 := w) w.heap.size rfl (.tmp 50) (.tmp 55) 23 52 (.agg #[(.int .u64 0), (.int .u64 0)]) 16 rfl Try.underlying23 info52 rfl (by decide) (by omega) u9 x9_1 (⟨(rd_T52 l0 x10_1).f0, (rd_T52 l0 x10_1).f1⟩ : S52) [.int .u64 ((rd_T52 l0 x10_1).f0), .int .u64 ((rd_T52 l0 x10_1).f1)] (fun k_ => k_ ≠ gb217) (fun _ => False) rfl rfl ?aP (fun _ hk => hk.elim) ?aF ?aO ?aB ?aS ?aL ?_; (case aP => exact k52_mkM _ _ _ (⟨(rd_T52 l0 x10_1).f0, (rd_T52 l0 x10_1).f1⟩ : S52)); (case aB => exact (by repeat (first | (with_reducible first | exact HB.out | apply below_alloc | apply pw_below_drewN | apply below_drew1 | refine below_set ?_ GE217.out) | exact HB.out))); (case aF => exact (fun k_ hk => Kd.freshB (g := gb217) (o := .cells #[.int .u64 a2_0, .int .u64 a2_1] 52 (0, 0)) (by (with_reducible repeat (first | refine blk_drewN ?_ _ | refine blk_drew ?_ | refine blk_alloc ?_ _)); exact BK217.out) k_ hk)); (case aO => exact (by (with_reducible repeat (first | apply Kd.R_alloc | apply Kd.R_drewN | apply Kd.R_drew)); exact HO_9.out)); (case aS => exact (below_size (by repeat (first | (with_reducible first | exact HB.out | apply below_alloc | apply pw_below_drewN | apply below_drew1 | refine below_set ?_ GE217.out) | exact HB.out)))); (case aL => have := LMc12.out; omega); intro v224 w14 ho hb hg hat; rw [← Ny223.out] at ho; have n0_ := Aside0.mk (blk_grown (g := gb217) (o := .cells #[.int .u64 a2_0, .int .u64 a2_1] 52 (0, 0)) (by (with_reducible repeat (first | refine blk_drewN ?_ _ | refine blk_drew ?_ | refine blk_alloc ?_ _)); exact BK217.out) hg (Kd.R_away HO_9.out (fun _ hk => hk))); have n1_ := Aside0.mk (hb); have n2_ := Aside0.mk (ho); clear BK217; clear HB; clear HO_9; have BK217 := n0_; have HB := n1_; have HO225 := n2_; clear n0_ n1_ n2_; clear ho hb hg hat)); try go_wp2_with (first | (go_at_call 30; (with_reducible refine (wigwagref01_AddT.calls ((rd_T52 l0 x10_1).f0) a1 t219 _ A8.out).mono ?_); rintro e w' ⟨rfl, ⟨nd, rfl⟩⟩; (try first | exact ⟨rfl, _, World.drewN_drewN _ _ _⟩ | exact ⟨rfl, _, Eq.trans (World.drewN_drewN ..) (congrArg (World.drewN _) (Nat.add_assoc ..))⟩); have hcz13_0 : wr.cell? ⟨gb217, 0, none⟩ = some (.int .u64 a2_0) := (blk_cell BK217.out 0).trans rfl; have hcz13_1 : wr.cell? ⟨gb217, 1, none⟩ = some (.int .u64 a2_1) := (blk_cell BK217.out 1).trans rfl; have hfz13_0 := blk_frozen BK217.out 0; have hfz13_1 := blk_frozen BK217.out 1; have p220 : 0 ≤ (x10_1 : Int) := of_decide_eq_true (by first | (with_reducible assumption) | assumption); have q220 : x10_1 < (l0.length : Int) := of_decide_eq_true (by first | (with_reducible assumption) | assumption); obtain ⟨ad220, e220, hx220_0, hx220_1⟩ := at_T52 HR0.out x10_1 p220 q220; obtain rfl : ad218 = ad220 := (by injection e220); replace hx220_0 := (HB.out.cell (World.block_lt_of_cell? w _ hx220_0)).trans hx220_0; replace hx220_1 := (HB.out.cell (World.block_lt_of_cell? w _ hx220_1)).trans hx220_1; replace p220 := eq_true p220; replace q220 := eq_true q220; have p221 : 0 ≤ (x10_1 : Int) := of_decide_eq_true (by first | (with_reducible assumption) | assumption); have q221 : x10_1 < (l0.length : Int) := of_decide_eq_true (by first | (with_reducible assumption) | assumption); obtain ⟨ad221, e221, hx221_0, hx221_1⟩ := at_T52 HR0.out x10_1 p221 q221; obtain rfl : ad218 = ad221 := (by injection e221); replace hx221_0 := (HB.out.cell (World.block_lt_of_cell? w _ hx221_0)).trans hx221_0; replace hx221_1 := (HB.out.cell (World.block_lt_of_cell? w _ hx221_1)).trans hx221_1; replace p221 := eq_true p221; replace q221 := eq_true q221; have p222 : 0 ≤ (x10_1 : Int) := of_decide_eq_true (by first | (with_reducible assumption) | assumption); have q222 : x10_1 < (l0.length : Int) := of_decide_eq_true (by first | (with_reducible assumption) | assumption); obtain ⟨ad222, e222, hx222_0, hx222_1⟩ := at_T52 HR0.out x10_1 p222 q222; obtain rfl : ad218 = ad222 := (by injection e222); replace hx222_0 := (HB.out.cell (World.block_lt_of_cell? w _ hx222_0)).trans hx222_0; replace hx222_1 := (HB.out.cell (World.block_lt_of_cell? w _ hx222_1)).trans hx222_1; replace p222 := eq_true p222; replace q222 := eq_true q222) | ((with_reducible refine gate_builtin (b := .append) (xs := #[.tmp 50, .tmp 55]) rfl ?_); at_builtin; refine Kd.R_append k52 (w0 := w) w.heap.size rfl (.tmp 50) (.tmp 55) 23 52 (.agg #[(.int .u64 0), (.int .u64 0)]) 16 rfl Try.underlying23 info52 rfl (by decide) (by omega) u9 x9_1 (⟨(rd_T52 l0 x10_1).f0, (rd_T52 l0 x10_1).f1⟩ : S52) [.int .u64 ((rd_T52 l0 x10_1).f0), .int .u64 ((rd_T52 l0 x10_1).f1)] (fun k_ => k_ ≠ gb217) (fun _ => False) rfl rfl ?aP (fun _ hk => hk.elim) ?aF ?aO ?aB ?aS ?aL ?_; (case aP => exact k52_mkM _ _ _ (⟨(rd_T52 l0 x10_1).f0, (rd_T52 l0 x10_1).f1⟩ : S52)); (case aB => exact (by repeat (first | (with_reducible first | exact HB.out | apply below_alloc | apply pw_below_drewN | apply below_drew1 | refine below_set ?_ GE217.out) | exact HB.out))); (case aF => exact (fun k_ hk => Kd.freshB (g := gb217) (o := .cells #[.int .u64 a2_0, .int .u64 a2_1] 52 (0, 0)) (by (with_reducible repeat (first | refine blk_drewN ?_ _ | refine blk_drew ?_ | refine blk_alloc ?_ _)); exact BK217.out) k_ hk)); (case aO => exact (by (with_reducible repeat (first | apply Kd.R_alloc | apply Kd.R_drewN | apply Kd.R_drew)); exact HO_9.out)); (case aS => exact (below_size (by repeat (first | (with_reducible first | exact HB.out | apply below_alloc | apply pw_below_drewN | apply below_drew1 | refine below_set ?_ GE217.out) | exact HB.out)))); (case aL => have := LMc12.out; omega); intro v224 w14 ho hb hg hat; rw [← Ny223.out] at ho; have n0_ := Aside0.mk (blk_grown (g := gb217) (o := .cells #[.int .u64 a2_0, .int .u64 a2_1] 52 (0, 0)) (by (with_reducible repeat (first | refine blk_drewN ?_ _ | refine blk_drew ?_ | refine blk_alloc ?_ _)); exact BK217.out) hg (Kd.R_away HO_9.out (fun _ hk => hk))); have n1_ := Aside0.mk (hb); have n2_ := Aside0.mk (ho); clear BK217; clear HB; clear HO_9; have BK217 := n0_; have HB := n1_; have HO225 := n2_; clear n0_ n1_ n2_; clear ho hb hg hat)))
                  go_roundg k1
                  case measure => have := HK1.out; omega
                  case rel => exact ⟨(y223), (wrap64 (x10_1 + 1)), (by first | rfl | (simp; done) | (simp [*]; done)), H', ⟨by have := HK1.out; omega⟩, ⟨by (with_reducible repeat (first | apply Kd.R_alloc | apply Kd.R_drewN | apply Kd.R_drew)); exact HO225.out⟩, ⟨by (with_reducible repeat (first | refine blk_drewN ?_ _ | refine blk_drew ?_ | refine blk_alloc ?_ _)); exact BK217.out⟩, ⟨by repeat (first | (with_reducible first | exact HB.out | apply below_alloc | apply pw_below_drewN | apply below_drew1 | refine below_set ?_ GE217.out) | exact HB.out)⟩⟩
                · rw [if_neg c12] at H
                  exact absurd H (by simp)
              · rw [if_neg c11] at H
                have c11b0 : decide (a2_1 < ((rd_T52 l0 x10_1).f1)) = false := decide_eq_false c11
                clear c11
                have H' := Aside0.mk H
                clear H
                have p218 : 0 ≤ (x10_1 : Int) := of_decide_eq_true (by first | (with_reducible assumption) | assumption)
                have q218 : x10_1 < (l0.length : Int) := of_decide_eq_true (by first | (with_reducible assumption) | assumption)
                obtain ⟨ad218, e218, hx218_0, hx218_1⟩ := at_T52 HR0.out x10_1 p218 q218
                cases e218
                replace hx218_0 := (HB.out.cell (World.block_lt_of_cell? w _ hx218_0)).trans hx218_0
                replace hx218_1 := (HB.out.cell (World.block_lt_of_cell? w _ hx218_1)).trans hx218_1
                replace p218 := eq_true p218
                replace q218 := eq_true q218
                go_wp2_with (first | (go_at_call 30; (with_reducible refine (wigwagref01_AddT.calls ((rd_T52 l0 x10_1).f0) a1 t219 _ A8.out).mono ?_); rintro e w' ⟨rfl, ⟨nd, rfl⟩⟩; (try first | exact ⟨rfl, _, World.drewN_drewN _ _ _⟩ | exact ⟨rfl, _, Eq.trans (World.drewN_drewN ..) (congrArg (World.drewN _) (Nat.add_assoc ..))⟩); have hcz15_0 : wr.cell? ⟨gb217, 0, none⟩ = some (.int .u64 a2_0) := (blk_cell BK217.out 0).trans rfl; have hcz15_1 : wr.cell? ⟨gb217, 1, none⟩ = some (.int .u64 a2_1) := (blk_cell BK217.out 1).trans rfl; have hfz15_0 := blk_frozen BK217.out 0; have hfz15_1 := blk_frozen BK217.out 1; have p220 : 0 ≤ (x10_1 : Int) := of_decide_eq_true (by first | (with_reducible assumption) | assumption); have q220 : x10_1 < (l0.length : Int) := of_decide_eq_true (by first | (with_reducible assumption) | assumption); obtain ⟨ad220, e220, hx220_0, hx220_1⟩ := at_T52 HR0.out x10_1 p220 q220; obtain rfl : ad218 = ad220 := (by injection e220); replace hx220_0 := (HB.out.cell (World.block_lt_of_cell? w _ hx220_0)).trans hx220_0; replace hx220_1 := (HB.out.cell (World.block_lt_of_cell? w _ hx220_1)).trans hx220_1; replace p220 := eq_true p220; replace q220 := eq_true q220; have p221 : 0 ≤ (x10_1 : Int) := of_decide_eq_true (by first | (with_reducible assumption) | assumption); have q221 : x10_1 < (l0.length : Int) := of_decide_eq_true (by first | (with_reducible assumption) | assumption); obtain ⟨ad221, e221, hx221_0, hx221_1⟩ := at_T52 HR0.out x10_1 p221 q221; obtain rfl : ad218 = ad221 := (by injection e221); replace hx221_0 := (HB.out.cell (World.block_lt_of_cell? w _ hx221_0)).trans hx221_0; replace hx221_1 := (HB.out.cell (World.block_lt_of_cell? w _ hx221_1)).trans hx221_1; replace p221 := eq_true p221; replace q221 := eq_true q221))
                repeat (go_quiet (first | (go_at_call 30; (with_reducible refine (wigwagref01_AddT.calls ((rd_T52 l0 x10_1).f0) a1 t219 _ A8.out).mono ?_); rintro e w' ⟨rfl, ⟨nd, rfl⟩⟩; (try first | exact ⟨rfl, _, World.drewN_drewN _ _ _⟩ | exact ⟨rfl, _, Eq.trans (World.drewN_drewN ..) (congrArg (World.drewN _) (Nat.add_assoc ..))⟩); have hcz15_0 : wr.cell? ⟨gb217, 0, none⟩ = some (.int .u64 a2_0) := (blk_cell BK217.out 0).trans rfl; have hcz15_1 : wr.cell? ⟨gb217, 1, none⟩ = some (.int .u64 a2_1) := (blk_cell BK217.out 1).trans rfl; have hfz15_0 := blk_frozen BK217.out 0; have hfz15_1 := blk_frozen BK217.out 1; have p220 : 0 ≤ (x10_1 : Int) := of_decide_eq_true (by first | (with_reducible assumption) | assumption); have q220 : x10_1 < (l0.length : Int) := of_decide_eq_true (by first | (with_reducible assumption) | assumption); obtain ⟨ad220, e220, hx220_0, hx220_1⟩ := at_T52 HR0.out x10_1 p220 q220; obtain rfl : ad218 = ad220 := (by injection e220); replace hx220_0 := (HB.out.cell (World.block_lt_of_cell? w _ hx220_0)).trans hx220_0; replace hx220_1 := (HB.out.cell (World.block_lt_of_cell? w _ hx220_1)).trans hx220_1; replace p220 := eq_true p220; replace q220 := eq_true q220; have p221 : 0 ≤ (x10_1 : Int) := of_decide_eq_true (by first | (with_reducible assumption) | assumption); have q221 : x10_1 < (l0.length : Int) := of_decide_eq_true (by first | (with_reducible assumption) | assumption); obtain ⟨ad221, e221, hx221_0, hx221_1⟩ := at_T52 HR0.out x10_1 p221 q221; obtain rfl : ad218 = ad221 := (by injection e221); replace hx221_0 := (HB.out.cell (World.block_lt_of_cell? w _ hx221_0)).trans hx221_0; replace hx221_1 := (HB.out.cell (World.block_lt_of_cell? w _ hx221_1)).trans hx221_1; replace p221 := eq_true p221; replace q221 := eq_true q221)); try go_wp2_with (first | (go_at_call 30; (with_reducible refine (wigwagref01_AddT.calls ((rd_T52 l0 x10_1).f0) a1 t219 _ A8.out).mono ?_); rintro e w' ⟨rfl, ⟨nd, rfl⟩⟩; (try first | exact ⟨rfl, _, World.drewN_drewN _ _ _⟩ | exact ⟨rfl, _, Eq.trans (World.drewN_drewN ..) (congrArg (World.drewN _) (Nat.add_assoc ..))⟩); have hcz15_0 : wr.cell? ⟨gb217, 0, none⟩ = some (.int .u64 a2_0) := (blk_cell BK217.out 0).trans rfl; have hcz15_1 : wr.cell? ⟨gb217, 1, none⟩ = some (.int .u64 a2_1) := (blk_cell BK217.out 1).trans rfl; have hfz15_0 := blk_frozen BK217.out 0; have hfz15_1 := blk_frozen BK217.out 1; have p220 : 0 ≤ (x10_1 : Int) := of_decide_eq_true (by first | (with_reducible assumption) | assumption); have q220 : x10_1 < (l0.length : Int) := of_decide_eq_true (by first | (with_reducible assumption) | assumption); obtain ⟨ad220, e220, hx220_0, hx220_1⟩ := at_T52 HR0.out x10_1 p220 q220; obtain rfl : ad218 = ad220 := (by injection e220); replace hx220_0 := (HB.out.cell (World.block_lt_of_cell? w _ hx220_0)).trans hx220_0; replace hx220_1 := (HB.out.cell (World.block_lt_of_cell? w _ hx220_1)).trans hx220_1; replace p220 := eq_true p220; replace q220 := eq_true q220; have p221 : 0 ≤ (x10_1 : Int) := of_decide_eq_true (by first | (with_reducible assumption) | assumption); have q221 : x10_1 < (l0.length : Int) := of_decide_eq_true (by first | (with_reducible assumption) | assumption); obtain ⟨ad221, e221, hx221_0, hx221_1⟩ := at_T52 HR0.out x10_1 p221 q221; obtain rfl : ad218 = ad221 := (by injection e221); replace hx221_0 := (HB.out.cell (World.block_lt_of_cell? w _ hx221_0)).trans hx221_0; replace hx221_1 := (HB.out.cell (World.block_lt_of_cell? w _ hx221_1)).trans hx221_1; replace p221 := eq_true p221; replace q221 := eq_true q221)))
                go_roundg k1
                case measure => have := HK1.out; omega
                case rel => exact ⟨(x9_1), (wrap64 (x10_1 + 1)), (by first | rfl | (simp; done) | (simp [*]; done)), H', ⟨by have := HK1.out; omega⟩, ⟨by (with_reducible repeat (first | apply Kd.R_alloc | apply Kd.R_drewN | apply Kd.R_drew)); exact HO_9.out⟩, ⟨by (with_reducible repeat (first | refine blk_drewN ?_ _ | refine blk_drew ?_ | refine blk_alloc ?_ _)); exact BK217.out⟩, ⟨by repeat (first | (with_reducible first | exact HB.out | apply below_alloc | apply pw_below_drewN | apply below_drew1 | refine below_set ?_ GE217.out) | exact HB.out)⟩⟩
            · rw [if_neg c10] at H
              have c10b0 : decide (a2_0 ≤ t219) = false := decide_eq_false c10
              clear c10
              have H' := Aside0.mk H
              clear H
              have p218 : 0 ≤ (x10_1 : Int) := of_decide_eq_true (by first | (with_reducible assumption) | assumption)
              have q218 : x10_1 < (l0.length : Int) := of_decide_eq_true (by first | (with_reducible assumption) | assumption)
              obtain ⟨ad218, e218, hx218_0, hx218_1⟩ := at_T52 HR0.out x10_1 p218 q218
              cases e218
              replace hx218_0 := (HB.out.cell (World.block_lt_of_cell? w _ hx218_0)).trans hx218_0
              replace hx218_1 := (HB.out.cell (World.block_lt_of_cell? w _ hx218_1)).trans hx218_1
              replace p218 := eq_true p218
              replace q218 := eq_true q218
              go_wp2_with (first | (go_at_call 30; (with_reducible refine (wigwagref01_AddT.calls ((rd_T52 l0 x10_1).f0) a1 t219 _ A8.out).mono ?_); rintro e w' ⟨rfl, ⟨nd, rfl⟩⟩; (try first | exact ⟨rfl, _, World.drewN_drewN _ _ _⟩ | exact ⟨rfl, _, Eq.trans (World.drewN_drewN ..) (congrArg (World.drewN _) (Nat.add_assoc ..))⟩); have hcz16_0 : wr.cell? ⟨gb217, 0, none⟩ = some (.int .u64 a2_0) := (blk_cell BK217.out 0).trans rfl; have hcz16_1 : wr.cell? ⟨gb217, 1, none⟩ = some (.int .u64 a2_1) := (blk_cell BK217.out 1).trans rfl; have hfz16_0 := blk_frozen BK217.out 0; have hfz16_1 := blk_frozen BK217.out 1; have p220 : 0 ≤ (x10_1 : Int) := of_decide_eq_true (by first | (with_reducible assumption) | assumption); have q220 : x10_1 < (l0.length : Int) := of_decide_eq_true (by first | (with_reducible assumption) | assumption); obtain ⟨ad220, e220, hx220_0, hx220_1⟩ := at_T52 HR0.out x10_1 p220 q220; obtain rfl : ad218 = ad220 := (by injection e220); replace hx220_0 := (HB.out.cell (World.block_lt_of_cell? w _ hx220_0)).trans hx220_0; replace hx220_1 := (HB.out.cell (World.block_lt_of_cell? w _ hx220_1)).trans hx220_1; replace p220 := eq_true p220; replace q220 := eq_true q220; have p221 : 0 ≤ (x10_1 : Int) := of_decide_eq_true (by first | (with_reducible assumption) | assumption); have q221 : x10_1 < (l0.length : Int) := of_decide_eq_true (by first | (with_reducible assumption) | assumption); obtain ⟨ad221, e221, hx221_0, hx221_1⟩ := at_T52 HR0.out x10_1 p221 q221; obtain rfl : ad218 = ad221 := (by injection e221); replace hx221_0 := (HB.out.cell (World.block_lt_of_cell? w _ hx221_0)).trans hx221_0; replace hx221_1 := (HB.out.cell (World.block_lt_of_cell? w _ hx221_1)).trans hx221_1; replace p221 := eq_true p221; replace q221 := eq_true q221))
              repeat (go_quiet (first | (go_at_call 30; (with_reducible refine (wigwagref01_AddT.calls ((rd_T52 l0 x10_1).f0) a1 t219 _ A8.out).mono ?_); rintro e w' ⟨rfl, ⟨nd, rfl⟩⟩; (try first | exact ⟨rfl, _, World.drewN_drewN _ _ _⟩ | exact ⟨rfl, _, Eq.trans (World.drewN_drewN ..) (congrArg (World.drewN _) (Nat.add_assoc ..))⟩); have hcz16_0 : wr.cell? ⟨gb217, 0, none⟩ = some (.int .u64 a2_0) := (blk_cell BK217.out 0).trans rfl; have hcz16_1 : wr.cell? ⟨gb217, 1, none⟩ = some (.int .u64 a2_1) := (blk_cell BK217.out 1).trans rfl; have hfz16_0 := blk_frozen BK217.out 0; have hfz16_1 := blk_frozen BK217.out 1; have p220 : 0 ≤ (x10_1 : Int) := of_decide_eq_true (by first | (with_reducible assumption) | assumption); have q220 : x10_1 < (l0.length : Int) := of_decide_eq_true (by first | (with_reducible assumption) | assumption); obtain ⟨ad220, e220, hx220_0, hx220_1⟩ := at_T52 HR0.out x10_1 p220 q220; obtain rfl : ad218 = ad220 := (by injection e220); replace hx220_0 := (HB.out.cell (World.block_lt_of_cell? w _ hx220_0)).trans hx220_0; replace hx220_1 := (HB.out.cell (World.block_lt_of_cell? w _ hx220_1)).trans hx220_1; replace p220 := eq_true p220; replace q220 := eq_true q220; have p221 : 0 ≤ (x10_1 : Int) := of_decide_eq_true (by first | (with_reducible assumption) | assumption); have q221 : x10_1 < (l0.length : Int) := of_decide_eq_true (by first | (with_reducible assumption) | assumption); obtain ⟨ad221, e221, hx221_0, hx221_1⟩ := at_T52 HR0.out x10_1 p221 q221; obtain rfl : ad218 = ad221 := (by injection e221); replace hx221_0 := (HB.out.cell (World.block_lt_of_cell? w _ hx221_0)).trans hx221_0; replace hx221_1 := (HB.out.cell (World.block_lt_of_cell? w _ hx221_1)).trans hx221_1; replace p221 := eq_true p221; replace q221 := eq_true q221)); try go_wp2_with (first | (go_at_call 30; (with_reducible refine (wigwagref01_AddT.calls ((rd_T52 l0 x10_1).f0) a1 t219 _ A8.out).mono ?_); rintro e w' ⟨rfl, ⟨nd, rfl⟩⟩; (try first | exact ⟨rfl, _, World.drewN_drewN _ _ _⟩ | exact ⟨rfl, _, Eq.trans (World.drewN_drewN ..) (congrArg (World.drewN _) (Nat.add_assoc ..))⟩); have hcz16_0 : wr.cell? ⟨gb217, 0, none⟩ = some (.int .u64 a2_0) := (blk_cell BK217.out 0).trans rfl; have hcz16_1 : wr.cell? ⟨gb217, 1, none⟩ = some (.int .u64 a2_1) := (blk_cell BK217.out 1).trans rfl; have hfz16_0 := blk_frozen BK217.out 0; have hfz16_1 := blk_frozen BK217.out 1; have p220 : 0 ≤ (x10_1 : Int) := of_decide_eq_true (by first | (with_reducible assumption) | assumption); have q220 : x10_1 < (l0.length : Int) := of_decide_eq_true (by first | (with_reducible assumption) | assumption); obtain ⟨ad220, e220, hx220_0, hx220_1⟩ := at_T52 HR0.out x10_1 p220 q220; obtain rfl : ad218 = ad220 := (by injection e220); replace hx220_0 := (HB.out.cell (World.block_lt_of_cell? w _ hx220_0)).trans hx220_0; replace hx220_1 := (HB.out.cell (World.block_lt_of_cell? w _ hx220_1)).trans hx220_1; replace p220 := eq_true p220; replace q220 := eq_true q220; have p221 : 0 ≤ (x10_1 : Int) := of_decide_eq_true (by first | (with_reducible assumption) | assumption); have q221 : x10_1 < (l0.length : Int) := of_decide_eq_true (by first | (with_reducible assumption) | assumption); obtain ⟨ad221, e221, hx221_0, hx221_1⟩ := at_T52 HR0.out x10_1 p221 q221; obtain rfl : ad218 = ad221 := (by injection e221); replace hx221_0 := (HB.out.cell (World.block_lt_of_cell? w _ hx221_0)).trans hx221_0; replace hx221_1 := (HB.out.cell (World.block_lt_of_cell? w _ hx221_1)).trans hx221_1; replace p221 := eq_true p221; replace q221 := eq_true q221)))
              go_roundg k1
              case measure => have := HK1.out; omega
              case rel => exact ⟨(x9_1), (wrap64 (x10_1 + 1)), (by first | rfl | (simp; done) | (simp [*]; done)), H', ⟨by have := HK1.out; omega⟩, ⟨by (with_reducible repeat (first | apply Kd.R_alloc | apply Kd.R_drewN | apply Kd.R_drew)); exact HO_9.out⟩, ⟨by (with_reducible repeat (first | refine blk_drewN ?_ _ | refine blk_drew ?_ | refine blk_alloc ?_ _)); exact BK217.out⟩, ⟨by repeat (first | (with_reducible first | exact HB.out | apply below_alloc | apply pw_below_drewN | apply below_drew1 | refine below_set ?_ GE217.out) | exact HB.out)⟩⟩
          · replace c9 := Bool.eq_false_iff.mpr c9
            subst c9
            have H1 : (if t219 ≥ a2_0 then (if ((rd_T52 l0 x10_1).f1) < a2_1 then (if x9_1.length < 8796093022208 then (wigwagref02_push.l0 k1 l0 a1 false (x9_1 ++ [(⟨(rd_T52 l0 x10_1).f0, (rd_T52 l0 x10_1).f1⟩ : S52)]) (wrap64 (x10_1 + 1)) a2_0 a2_1) else (none)) else (wigwagref02_push.l0 k1 l0 a1 false x9_1 (wrap64 (x10_1 + 1)) a2_0 a2_1)) else (wigwagref02_push.l0 k1 l0 a1 false x9_1 (wrap64 (x10_1 + 1)) a2_0 a2_1)) = some r := by rw [if_neg (show ¬ (false = true) by decide)] at H; exact H
            clear H
            have H := H1
            clear H1
            by_cases c17 : t219 ≥ a2_0
            · rw [if_pos c17] at H
              have c17b0 : decide (a2_0 ≤ t219) = true := decide_eq_true c17
              clear c17
              by_cases c18 : ((rd_T52 l0 x10_1).f1) < a2_1
              · rw [if_pos c18] at H
                have c18b0 : decide (((rd_T52 l0 x10_1).f1) < a2_1) = true := decide_eq_true c18
                clear c18
                by_cases c19 : x9_1.length < 8796093022208
                · rw [if_pos c19] at H
                  have LMc19 := Aside0.mk c19
                  clear c19
                  obtain ⟨y227, hy227⟩ : ∃ y_ : List (S52), y_ = (x9_1 ++ [(⟨(rd_T52 l0 x10_1).f0, (rd_T52 l0 x10_1).f1⟩ : S52)]) := ⟨_, rfl⟩
                  replace H : (wigwagref02_push.l0 k1 l0 a1 false y227 (wrap64 (x10_1 + 1)) a2_0 a2_1) = some r := by first | (rw [hy227]; with_reducible exact H) | (have H2_ := (Option.bind_some _ _).symm.trans H; rw [hy227]; with_reducible exact H2_) | (have H2_ := (Option.bind_some _ _).symm.trans H; with_reducible exact H2_) | with_reducible exact H | (rw [hy227]; exact H) | exact H
                  have Ny227 := Aside0.mk hy227
                  clear hy227
                  have H' := Aside0.mk H
                  clear H
                  have p218 : 0 ≤ (x10_1 : Int) := of_decide_eq_true (by first | (with_reducible assumption) | assumption)
                  have q218 : x10_1 < (l0.length : Int) := of_decide_eq_true (by first | (with_reducible assumption) | assumption)
                  obtain ⟨ad218, e218, hx218_0, hx218_1⟩ := at_T52 HR0.out x10_1 p218 q218
                  cases e218
                  replace hx218_0 := (HB.out.cell (World.block_lt_of_cell? w _ hx218_0)).trans hx218_0
                  replace hx218_1 := (HB.out.cell (World.block_lt_of_cell? w _ hx218_1)).trans hx218_1
                  replace p218 := eq_true p218
                  replace q218 := eq_true q218
                  go_wp2_with (first | (go_at_call 30; (with_reducible refine (wigwagref01_AddT.calls ((rd_T52 l0 x10_1).f0) a1 t219 _ A8.out).mono ?_); rintro e w' ⟨rfl, ⟨nd, rfl⟩⟩; (try first | exact ⟨rfl, _, World.drewN_drewN _ _ _⟩ | exact ⟨rfl, _, Eq.trans (World.drewN_drewN ..) (congrArg (World.drewN _) (Nat.add_assoc ..))⟩); have hcz20_0 : wr.cell? ⟨gb217, 0, none⟩ = some (.int .u64 a2_0) := (blk_cell BK217.out 0).trans rfl; have hcz20_1 : wr.cell? ⟨gb217, 1, none⟩ = some (.int .u64 a2_1) := (blk_cell BK217.out 1).trans rfl; have hfz20_0 := blk_frozen BK217.out 0; have hfz20_1 := blk_frozen BK217.out 1; have p220 : 0 ≤ (x10_1 : Int) := of_decide_eq_true (by first | (with_reducible assumption) | assumption); have q220 : x10_1 < (l0.length : Int) := of_decide_eq_true (by first | (with_reducible assumption) | assumption); obtain ⟨ad220, e220, hx220_0, hx220_1⟩ := at_T52 HR0.out x10_1 p220 q220; obtain rfl : ad218 = ad220 := (by injection e220); replace hx220_0 := (HB.out.cell (World.block_lt_of_cell? w _ hx220_0)).trans hx220_0; replace hx220_1 := (HB.out.cell (World.block_lt_of_cell? w _ hx220_1)).trans hx220_1; replace p220 := eq_true p220; replace q220 := eq_true q220; have p226 : 0 ≤ (x10_1 : Int) := of_decide_eq_true (by first | (with_reducible assumption) | assumption); have q226 : x10_1 < (l0.length : Int) := of_decide_eq_true (by first | (with_reducible assumption) | assumption); obtain ⟨ad226, e226, hx226_0, hx226_1⟩ := at_T52 HR0.out x10_1 p226 q226; obtain rfl : ad218 = ad226 := (by injection e226); replace hx226_0 := (HB.out.cell (World.block_lt_of_cell? w _ hx226_0)).trans hx226_0; replace hx226_1 := (HB.out.cell (World.block_lt_of_cell? w _ hx226_1)).trans hx226_1; replace p226 := eq_true p226; replace q226 := eq_true q226) | ((with_reducible refine gate_builtin (b := .append) (xs := #[.tmp 50, .tmp 55]) rfl ?_); at_builtin; refine Kd.R_append k52 (w0 := w) w.heap.size rfl (.tmp 50) (.tmp 55) 23 52 (.agg #[(.int .u64 0), (.int .u64 0)]) 16 rfl Try.underlying23 info52 rfl (by decide) (by omega) u9 x9_1 (⟨(rd_T52 l0 x10_1).f0, (rd_T52 l0 x10_1).f1⟩ : S52) [.int .u64 ((rd_T52 l0 x10_1).f0), .int .u64 ((rd_T52 l0 x10_1).f1)] (fun k_ => k_ ≠ gb217) (fun _ => False) rfl rfl ?aP (fun _ hk => hk.elim) ?aF ?aO ?aB ?aS ?aL ?_; (case aP => exact k52_mkM _ _ _ (⟨(rd_T52 l0 x10_1).f0, (rd_T52 l0 x10_1).f1⟩ : S52)); (case aB => exact (by repeat (first | (with_reducible first | exact HB.out | apply below_alloc | apply pw_below_drewN | apply below_drew1 | refine below_set ?_ GE217.out) | exact HB.out))); (case aF => exact (fun k_ hk => Kd.freshB (g := gb217) (o := .cells #[.int .u64 a2_0, .int .u64 a2_1] 52 (0, 0)) (by (with_reducible repeat (first | refine blk_drewN ?_ _ | refine blk_drew ?_ | refine blk_alloc ?_ _)); exact BK217.out) k_ hk)); (case aO => exact (by (with_reducible repeat (first | apply Kd.R_alloc | apply Kd.R_drewN | apply Kd.R_drew)); exact HO_9.out)); (case aS => exact (below_size (by repeat (first | (with_reducible first | exact HB.out | apply below_alloc | apply pw_below_drewN | apply below_drew1 | refine below_set ?_ GE217.out) | exact HB.out)))); (case aL => have := LMc19.out; omega); intro v228 w21 ho hb hg hat; rw [← Ny227.out] at ho; have n0_ := Aside0.mk (blk_grown (g := gb217) (o := .cells #[.int .u64 a2_0, .int .u64 a2_1] 52 (0, 0)) (by (with_reducible repeat (first | refine blk_drewN ?_ _ | refine blk_drew ?_ | refine blk_alloc ?_ _)); exact BK217.out) hg (Kd.R_away HO_9.out (fun _ hk => hk))); have n1_ := Aside0.mk (hb); have n2_ := Aside0.mk (ho); clear BK217; clear HB; clear HO_9; have BK217 := n0_; have HB := n1_; have HO229 := n2_; clear n0_ n1_ n2_; clear ho hb hg hat))
                  repeat (go_quiet (first | (go_at_call 30; (with_reducible refine (wigwagref01_AddT.calls ((rd_T52 l0 x10_1).f0) a1 t219 _ A8.out).mono ?_); rintro e w' ⟨rfl, ⟨nd, rfl⟩⟩; (try first | exact ⟨rfl, _, World.drewN_drewN _ _ _⟩ | exact ⟨rfl, _, Eq.trans (World.drewN_drewN ..) (congrArg (World.drewN _) (Nat.add_assoc ..))⟩); have hcz20_0 : wr.cell? ⟨gb217, 0, none⟩ = some (.int .u64 a2_0) := (blk_cell BK217.out 0).trans rfl; have hcz20_1 : wr.cell? ⟨gb217, 1, none⟩ = some (.int .u64 a2_1) := (blk_cell BK217.out 1).trans rfl; have hfz20_0 := blk_frozen BK217.out 0; have hfz20_1 := blk_frozen BK217.out 1; have p220 : 0 ≤ (x10_1 : Int) := of_decide_eq_true (by first | (with_reducible assumption) | assumption); have q220 : x10_1 < (l0.length : Int) := of_decide_eq_true (by first | (with_reducible assumption) | assumption); obtain ⟨ad220, e220, hx220_0, hx220_1⟩ := at_T52 HR0.out x10_1 p220 q220; obtain rfl : ad218 = ad220 := (by injection e220); replace hx220_0 := (HB.out.cell (World.block_lt_of_cell? w _ hx220_0)).trans hx220_0; replace hx220_1 := (HB.out.cell (World.block_lt_of_cell? w _ hx220_1)).trans hx220_1; replace p220 := eq_true p220; replace q220 := eq_true q220; have p226 : 0 ≤ (x10_1 : Int) := of_decide_eq_true (by first | (with_reducible assumption) | assumption); have q226 : x10_1 < (l0.length : Int) := of_decide_eq_true (by first | (with_reducible assumption) | assumption); obtain ⟨ad226, e226, hx226_0, hx226_1⟩ := at_T52 HR0.out x10_1 p226 q226; obtain rfl : ad218 = ad226 := (by injection e226); replace hx226_0 := (HB.out.cell (World.block_lt_of_cell? w _ hx226_0)).trans hx226_0; replace hx226_1 := (HB.out.cell (World.block_lt_of_cell? w _ hx226_1)).trans hx226_1; replace p226 := eq_true p226; replace q226 := eq_true q226) | ((with_reducible refine gate_builtin (b := .append) (xs := #[.tmp 50, .tmp 55]) rfl ?_); at_builtin; refine Kd.R_append k52 (w0 := w) w.heap.size rfl (.tmp 50) (.tmp 55) 23 52 (.agg #[(.int .u64 0), (.int .u64 0)]) 16 rfl Try.underlying23 info52 rfl (by decide) (by omega) u9 x9_1 (⟨(rd_T52 l0 x10_1).f0, (rd_T52 l0 x10_1).f1⟩ : S52) [.int .u64 ((rd_T52 l0 x10_1).f0), .int .u64 ((rd_T52 l0 x10_1).f1)] (fun k_ => k_ ≠ gb217) (fun _ => False) rfl rfl ?aP (fun _ hk => hk.elim) ?aF ?aO ?aB ?aS ?aL ?_; (case aP => exact k52_mkM _ _ _ (⟨(rd_T52 l0 x10_1).f0, (rd_T52 l0 x10_1).f1⟩ : S52)); (case aB => exact (by repeat (first | (with_reducible first | exact HB.out | apply below_alloc | apply pw_below_drewN | apply below_drew1 | refine below_set ?_ GE217.out) | exact HB.out))); (case aF => exact (fun k_ hk => Kd.freshB (g := gb217) (o := .cells #[.int .u64 a2_0, .int .u64 a2_1] 52 (0, 0)) (by (with_reducible repeat (first | refine blk_drewN ?_ _ | refine blk_drew ?_ | refine blk_alloc ?_ _)); exact BK217.out) k_ hk)); (case aO => exact (by (with_reducible repeat (first | apply Kd.R_alloc | apply Kd.R_drewN | apply Kd.R_drew)); exact HO_9.out)); (case aS => exact (below_size (by repeat (first | (with_reducible first | exact HB.out | apply below_alloc | apply pw_below_drewN | apply below_drew1 | refine below_set ?_ GE217.out) | exact HB.out)))); (case aL => have := LMc19.out; omega); intro v228 w21 ho hb hg hat; rw [← Ny227.out] at ho; have n0_ := Aside0.mk (blk_grown (g := gb217) (o := .cells #[.int .u64 a2_0, .int .u64 a2_1] 52 (0, 0)) (by (with_reducible repeat (first | refine blk_drewN ?_ _ | refine blk_drew ?_ | refine blk_alloc ?_ _)); exact BK217.out) hg (Kd.R_away HO_9.out (fun _ hk => hk))); have n1_ := Aside0.mk (hb); have n2_ := Aside0.mk (ho); clear BK217; clear HB; clear HO_9; have BK217 := n0_; have HB := n1_; have HO229 := n2_; clear n0_ n1_ n2_; clear ho hb hg hat)); try go_wp2_with (first | (go_at_call 30; (with_reducible refine (wigwagref01_AddT.calls ((rd_T52 l0 x10_1).f0) a1 t219 _ A8.out).mono ?_); rintro e w' ⟨rfl, ⟨nd, rfl⟩⟩; (try first | exact ⟨rfl, _, World.drewN_drewN _ _ _⟩ | exact ⟨rfl, _, Eq.trans (World.drewN_drewN ..) (congrArg (World.drewN _) (Nat.add_assoc ..))⟩); have hcz20_0 : wr.cell? ⟨gb217, 0, none⟩ = some (.int .u64 a2_0) := (blk_cell BK217.out 0).trans rfl; have hcz20_1 : wr.cell? ⟨gb217, 1, none⟩ = some (.int .u64 a2_1) := (blk_cell BK217.out 1).trans rfl; have hfz20_0 := blk_frozen BK217.out 0; have hfz20_1 := blk_frozen BK217.out 1; have p220 : 0 ≤ (x10_1 : Int) := of_decide_eq_true (by first | (with_reducible assumption) | assumption); have q220 : x10_1 < (l0.length : Int) := of_decide_eq_true (by first | (with_reducible assumption) | assumption); obtain ⟨ad220, e220, hx220_0, hx220_1⟩ := at_T52 HR0.out x10_1 p220 q220; obtain rfl : ad218 = ad220 := (by injection e220); replace hx220_0 := (HB.out.cell (World.block_lt_of_cell? w _ hx220_0)).trans hx220_0; replace hx220_1 := (HB.out.cell (World.block_lt_of_cell? w _ hx220_1)).trans hx220_1; replace p220 := eq_true p220; replace q220 := eq_true q220; have p226 : 0 ≤ (x10_1 : Int) := of_decide_eq_true (by first | (with_reducible assumption) | assumption); have q226 : x10_1 < (l0.length : Int) := of_decide_eq_true (by first | (with_reducible assumption) | assumption); obtain ⟨ad226, e226, hx226_0, hx226_1⟩ := at_T52 HR0.out x10_1 p226 q226; obtain rfl : ad218 = ad226 := (by injection e226); replace hx226_0 := (HB.out.cell (World.block_lt_of_cell? w _ hx226_0)).trans hx226_0; replace hx226_1 := (HB.out.cell (World.block_lt_of_cell? w _ hx226_1)).trans hx226_1; replace p226 := eq_true p226; replace q226 := eq_true q226) | ((with_reducible refine gate_builtin (b := .append) (xs := #[.tmp 50, .tmp 55]) rfl ?_); at_builtin; refine Kd.R_append k52 (w0 := w) w.heap.size rfl (.tmp 50) (.tmp 55) 23 52 (.agg #[(.int .u64 0), (.int .u64 0)]) 16 rfl Try.underlying23 info52 rfl (by decide) (by omega) u9 x9_1 (⟨(rd_T52 l0 x10_1).f0, (rd_T52 l0 x10_1).f1⟩ : S52) [.int .u64 ((rd_T52 l0 x10_1).f0), .int .u64 ((rd_T52 l0 x10_1).f1)] (fun k_ => k_ ≠ gb217) (fun _ => False) rfl rfl ?aP (fun _ hk => hk.elim) ?aF ?aO ?aB ?aS ?aL ?_; (case aP => exact k52_mkM _ _ _ (⟨(rd_T52 l0 x10_1).f0, (rd_T52 l0 x10_1).f1⟩ : S52)); (case aB => exact (by repeat (first | (with_reducible first | exact HB.out | apply below_alloc | apply pw_below_drewN | apply below_drew1 | refine below_set ?_ GE217.out) | exact HB.out))); (case aF => exact (fun k_ hk => Kd.freshB (g := gb217) (o := .cells #[.int .u64 a2_0, .int .u64 a2_1] 52 (0, 0)) (by (with_reducible repeat (first | refine blk_drewN ?_ _ | refine blk_drew ?_ | refine blk_alloc ?_ _)); exact BK217.out) k_ hk)); (case aO => exact (by (with_reducible repeat (first | apply Kd.R_alloc | apply Kd.R_drewN | apply Kd.R_drew)); exact HO_9.out)); (case aS => exact (below_size (by repeat (first | (with_reducible first | exact HB.out | apply below_alloc | apply pw_below_drewN | apply below_drew1 | refine below_set ?_ GE217.out) | exact HB.out)))); (case aL => have := LMc19.out; omega); intro v228 w21 ho hb hg hat; rw [← Ny227.out] at ho; have n0_ := Aside0.mk (blk_grown (g := gb217) (o := .cells #[.int .u64 a2_0, .int .u64 a2_1] 52 (0, 0)) (by (with_reducible repeat (first | refine blk_drewN ?_ _ | refine blk_drew ?_ | refine blk_alloc ?_ _)); exact BK217.out) hg (Kd.R_away HO_9.out (fun _ hk => hk))); have n1_ := Aside0.mk (hb); have n2_ := Aside0.mk (ho); clear BK217; clear HB; clear HO_9; have BK217 := n0_; have HB := n1_; have HO229 := n2_; clear n0_ n1_ n2_; clear ho hb hg hat)))
                  go_roundg k1
                  case measure => have := HK1.out; omega
                  case rel => exact ⟨(y227), (wrap64 (x10_1 + 1)), (by first | rfl | (simp; done) | (simp [*]; done)), H', ⟨by have := HK1.out; omega⟩, ⟨by (with_reducible repeat (first | apply Kd.R_alloc | apply Kd.R_drewN | apply Kd.R_drew)); exact HO229.out⟩, ⟨by (with_reducible repeat (first | refine blk_drewN ?_ _ | refine blk_drew ?_ | refine blk_alloc ?_ _)); exact BK217.out⟩, ⟨by repeat (first | (with_reducible first | exact HB.out | apply below_alloc | apply pw_below_drewN | apply below_drew1 | refine below_set ?_ GE217.out) | exact HB.out)⟩⟩
                · rw [if_neg c19] at H
                  exact absurd H (by simp)
              · rw [if_neg c18] at H
                have c18b0 : decide (((rd_T52 l0 x10_1).f1) < a2_1) = false := decide_eq_false c18
                clear c18
                have H' := Aside0.mk H
                clear H
                have p218 : 0 ≤ (x10_1 : Int) := of_decide_eq_true (by first | (with_reducible assumption) | assumption)
                have q218 : x10_1 < (l0.length : Int) := of_decide_eq_true (by first | (with_reducible assumption) | assumption)
                obtain ⟨ad218, e218, hx218_0, hx218_1⟩ := at_T52 HR0.out x10_1 p218 q218
                cases e218
                replace hx218_0 := (HB.out.cell (World.block_lt_of_cell? w _ hx218_0)).trans hx218_0
                replace hx218_1 := (HB.out.cell (World.block_lt_of_cell? w _ hx218_1)).trans hx218_1
                replace p218 := eq_true p218
                replace q218 := eq_true q218
                go_wp2_with (first | (go_at_call 30; (with_reducible refine (wigwagref01_AddT.calls ((rd_T52 l0 x10_1).f0) a1 t219 _ A8.out).mono ?_); rintro e w' ⟨rfl, ⟨nd, rfl⟩⟩; (try first | exact ⟨rfl, _, World.drewN_drewN _ _ _⟩ | exact ⟨rfl, _, Eq.trans (World.drewN_drewN ..) (congrArg (World.drewN _) (Nat.add_assoc ..))⟩); have hcz22_0 : wr.cell? ⟨gb217, 0, none⟩ = some (.int .u64 a2_0) := (blk_cell BK217.out 0).trans rfl; have hcz22_1 : wr.cell? ⟨gb217, 1, none⟩ = some (.int .u64 a2_1) := (blk_cell BK217.out 1).trans rfl; have hfz22_0 := blk_frozen BK217.out 0; have hfz22_1 := blk_frozen BK217.out 1; have p220 : 0 ≤ (x10_1 : Int) := of_decide_eq_true (by first | (with_reducible assumption) | assumption); have q220 : x10_1 < (l0.length : Int) := of_decide_eq_true (by first | (with_reducible assumption) | assumption); obtain ⟨ad220, e220, hx220_0, hx220_1⟩ := at_T52 HR0.out x10_1 p220 q220; obtain rfl : ad218 = ad220 := (by injection e220); replace hx220_0 := (HB.out.cell (World.block_lt_of_cell? w _ hx220_0)).trans hx220_0; replace hx220_1 := (HB.out.cell (World.block_lt_of_cell? w _ hx220_1)).trans hx220_1; replace p220 := eq_true p220; replace q220 := eq_true q220))
                repeat (go_quiet (first | (go_at_call 30; (with_reducible refine (wigwagref01_AddT.calls ((rd_T52 l0 x10_1).f0) a1 t219 _ A8.out).mono ?_); rintro e w' ⟨rfl, ⟨nd, rfl⟩⟩; (try first | exact ⟨rfl, _, World.drewN_drewN _ _ _⟩ | exact ⟨rfl, _, Eq.trans (World.drewN_drewN ..) (congrArg (World.drewN _) (Nat.add_assoc ..))⟩); have hcz22_0 : wr.cell? ⟨gb217, 0, none⟩ = some (.int .u64 a2_0) := (blk_cell BK217.out 0).trans rfl; have hcz22_1 : wr.cell? ⟨gb217, 1, none⟩ = some (.int .u64 a2_1) := (blk_cell BK217.out 1).trans rfl; have hfz22_0 := blk_frozen BK217.out 0; have hfz22_1 := blk_frozen BK217.out 1; have p220 : 0 ≤ (x10_1 : Int) := of_decide_eq_true (by first | (with_reducible assumption) | assumption); have q220 : x10_1 < (l0.length : Int) := of_decide_eq_true (by first | (with_reducible assumption) | assumption); obtain ⟨ad220, e220, hx220_0, hx220_1⟩ := at_T52 HR0.out x10_1 p220 q220; obtain rfl : ad218 = ad220 := (by injection e220); replace hx220_0 := (HB.out.cell (World.block_lt_of_cell? w _ hx220_0)).trans hx220_0; replace hx220_1 := (HB.out.cell (World.block_lt_of_cell? w _ hx220_1)).trans hx220_1; replace p220 := eq_true p220; replace q220 := eq_true q220)); try go_wp2_with (first | (go_at_call 30; (with_reducible refine (wigwagref01_AddT.calls ((rd_T52 l0 x10_1).f0) a1 t219 _ A8.out).mono ?_); rintro e w' ⟨rfl, ⟨nd, rfl⟩⟩; (try first | exact ⟨rfl, _, World.drewN_drewN _ _ _⟩ | exact ⟨rfl, _, Eq.trans (World.drewN_drewN ..) (congrArg (World.drewN _) (Nat.add_assoc ..))⟩); have hcz22_0 : wr.cell? ⟨gb217, 0, none⟩ = some (.int .u64 a2_0) := (blk_cell BK217.out 0).trans rfl; have hcz22_1 : wr.cell? ⟨gb217, 1, none⟩ = some (.int .u64 a2_1) := (blk_cell BK217.out 1).trans rfl; have hfz22_0 := blk_frozen BK217.out 0; have hfz22_1 := blk_frozen BK217.out 1; have p220 : 0 ≤ (x10_1 : Int) := of_decide_eq_true (by first | (with_reducible assumption) | assumption); have q220 : x10_1 < (l0.length : Int) := of_decide_eq_true (by first | (with_reducible assumption) | assumption); obtain ⟨ad220, e220, hx220_0, hx220_1⟩ := at_T52 HR0.out x10_1 p220 q220; obtain rfl : ad218 = ad220 := (by injection e220); replace hx220_0 := (HB.out.cell (World.block_lt_of_cell? w _ hx220_0)).trans hx220_0; replace hx220_1 := (HB.out.cell (World.block_lt_of_cell? w _ hx220_1)).trans hx220_1; replace p220 := eq_true p220; replace q220 := eq_true q220)))
                go_roundg k1
                case measure => have := HK1.out; omega
                case rel => exact ⟨(x9_1), (wrap64 (x10_1 + 1)), (by first | rfl | (simp; done) | (simp [*]; done)), H', ⟨by have := HK1.out; omega⟩, ⟨by (with_reducible repeat (first | apply Kd.R_alloc | apply Kd.R_drewN | apply Kd.R_drew)); exact HO_9.out⟩, ⟨by (with_reducible repeat (first | refine blk_drewN ?_ _ | refine blk_drew ?_ | refine blk_alloc ?_ _)); exact BK217.out⟩, ⟨by repeat (first | (with_reducible first | exact HB.out | apply below_alloc | apply pw_below_drewN | apply below_drew1 | refine below_set ?_ GE217.out) | exact HB.out)⟩⟩
            · rw [if_neg c17] at H
              have c17b0 : decide (a2_0 ≤ t219) = false := decide_eq_false c17
              clear c17
              have H' := Aside0.mk H
              clear H
              have p218 : 0 ≤ (x10_1 : Int) := of_decide_eq_true (by first | (with_reducible assumption) | assumption)
              have q218 : x10_1 < (l0.length : Int) := of_decide_eq_true (by first | (with_reducible assumption) | assumption)
              obtain ⟨ad218, e218, hx218_0, hx218_1⟩ := at_T52 HR0.out x10_1 p218 q218
              cases e218
              replace hx218_0 := (HB.out.cell (World.block_lt_of_cell? w _ hx218_0)).trans hx218_0
              replace hx218_1 := (HB.out.cell (World.block_lt_of_cell? w _ hx218_1)).trans hx218_1
              replace p218 := eq_true p218
              replace q218 := eq_true q218
              go_wp2_with (first | (go_at_call 30; (with_reducible refine (wigwagref01_AddT.calls ((rd_T52 l0 x10_1).f0) a1 t219 _ A8.out).mono ?_); rintro e w' ⟨rfl, ⟨nd, rfl⟩⟩; (try first | exact ⟨rfl, _, World.drewN_drewN _ _ _⟩ | exact ⟨rfl, _, Eq.trans (World.drewN_drewN ..) (congrArg (World.drewN _) (Nat.add_assoc ..))⟩); have hcz23_0 : wr.cell? ⟨gb217, 0, none⟩ = some (.int .u64 a2_0) := (blk_cell BK217.out 0).trans rfl; have hcz23_1 : wr.cell? ⟨gb217, 1, none⟩ = some (.int .u64 a2_1) := (blk_cell BK217.out 1).trans rfl; have hfz23_0 := blk_frozen BK217.out 0; have hfz23_1 := blk_frozen BK217.out 1; have p220 : 0 ≤ (x10_1 : Int) := of_decide_eq_true (by first | (with_reducible assumption) | assumption); have q220 : x10_1 < (l0.length : Int) := of_decide_eq_true (by first | (with_reducible assumption) | assumption); obtain ⟨ad220, e220, hx220_0, hx220_1⟩ := at_T52 HR0.out x10_1 p220 q220; obtain rfl : ad218 = ad220 := (by injection e220); replace hx220_0 := (HB.out.cell (World.block_lt_of_cell? w _ hx220_0)).trans hx220_0; replace hx220_1 := (HB.out.cell (World.block_lt_of_cell? w _ hx220_1)).trans hx220_1; replace p220 := eq_true p220; replace q220 := eq_true q220))
              repeat (go_quiet (first | (go_at_call 30; (with_reducible refine (wigwagref01_AddT.calls ((rd_T52 l0 x10_1).f0) a1 t219 _ A8.out).mono ?_); rintro e w' ⟨rfl, ⟨nd, rfl⟩⟩; (try first | exact ⟨rfl, _, World.drewN_drewN _ _ _⟩ | exact ⟨rfl, _, Eq.trans (World.drewN_drewN ..) (congrArg (World.drewN _) (Nat.add_assoc ..))⟩); have hcz23_0 : wr.cell? ⟨gb217, 0, none⟩ = some (.int .u64 a2_0) := (blk_cell BK217.out 0).trans rfl; have hcz23_1 : wr.cell? ⟨gb217, 1, none⟩ = some (.int .u64 a2_1) := (blk_cell BK217.out 1).trans rfl; have hfz23_0 := blk_frozen BK217.out 0; have hfz23_1 := blk_frozen BK217.out 1; have p220 : 0 ≤ (x10_1 : Int) := of_decide_eq_true (by first | (with_reducible assumption) | assumption); have q220 : x10_1 < (l0.length : Int) := of_decide_eq_true (by first | (with_reducible assumption) | assumption); obtain ⟨ad220, e220, hx220_0, hx220_1⟩ := at_T52 HR0.out x10_1 p220 q220; obtain rfl : ad218 = ad220 := (by injection e220); replace hx220_0 := (HB.out.cell (World.block_lt_of_cell? w _ hx220_0)).trans hx220_0; replace hx220_1 := (HB.out.cell (World.block_lt_of_cell? w _ hx220_1)).trans hx220_1; replace p220 := eq_true p220; replace q220 := eq_true q220)); try go_wp2_with (first | (go_at_call 30; (with_reducible refine (wigwagref01_AddT.calls ((rd_T52 l0 x10_1).f0) a1 t219 _ A8.out).mono ?_); rintro e w' ⟨rfl, ⟨nd, rfl⟩⟩; (try first | exact ⟨rfl, _, World.drewN_drewN _ _ _⟩ | exact ⟨rfl, _, Eq.trans (World.drewN_drewN ..) (congrArg (World.drewN _) (Nat.add_assoc ..))⟩); have hcz23_0 : wr.cell? ⟨gb217, 0, none⟩ = some (.int .u64 a2_0) := (blk_cell BK217.out 0).trans rfl; have hcz23_1 : wr.cell? ⟨gb217, 1, none⟩ = some (.int .u64 a2_1) := (blk_cell BK217.out 1).trans rfl; have hfz23_0 := blk_frozen BK217.out 0; have hfz23_1 := blk_frozen BK217.out 1; have p220 : 0 ≤ (x10_1 : Int) := of_decide_eq_true (by first | (with_reducible assumption) | assumption); have q220 : x10_1 < (l0.length : Int) := of_decide_eq_true (by first | (with_reducible assumption) | assumption); obtain ⟨ad220, e220, hx220_0, hx220_1⟩ := at_T52 HR0.out x10_1 p220 q220; obtain rfl : ad218 = ad220 := (by injection e220); replace hx220_0 := (HB.out.cell (World.block_lt_of_cell? w _ hx220_0)).trans hx220_0; replace hx220_1 := (HB.out.cell (World.block_lt_of_cell? w _ hx220_1)).trans hx220_1; replace p220 := eq_true p220; replace q220 := eq_true q220)))
              go_roundg k1
              case measure => have := HK1.out; omega
              case rel => exact ⟨(x9_1), (wrap64 (x10_1 + 1)), (by first | rfl | (simp; done) | (simp [*]; done)), H', ⟨by have := HK1.out; omega⟩, ⟨by (with_reducible repeat (first | apply Kd.R_alloc | apply Kd.R_drewN | apply Kd.R_drew)); exact HO_9.out⟩, ⟨by (with_reducible repeat (first | refine blk_drewN ?_ _ | refine blk_drew ?_ | refine blk_alloc ?_ _)); exact BK217.out⟩, ⟨by repeat (first | (with_reducible first | exact HB.out | apply below_alloc | apply pw_below_drewN | apply below_drew1 | refine below_set ?_ GE217.out) | exact HB.out)⟩⟩
        · rw [if_neg c7] at H
          exact absurd H (by simp)
      · rw [if_neg c6] at H
        have c6b0 : decide (x10_1 < (l0.length : Int)) = false := decide_eq_false c6
        clear c6
        by_cases c24 : x9_1.length < 8796093022208
        · rw [if_pos c24] at H
          have LMc24 := Aside0.mk c24
          clear c24
          obtain ⟨y230, hy230⟩ : ∃ y_ : List (S52), y_ = (x9_1 ++ [(⟨a2_0, a2_1⟩ : S52)]) := ⟨_, rfl⟩
          replace H : (some y230) = some r := by first | (rw [hy230]; with_reducible exact H) | (have H2_ := (Option.bind_some _ _).symm.trans H; rw [hy230]; with_reducible exact H2_) | (have H2_ := (Option.bind_some _ _).symm.trans H; with_reducible exact H2_) | with_reducible exact H | (rw [hy230]; exact H) | exact H
          have Ny230 := Aside0.mk hy230
          clear hy230
          obtain rfl := Option.some.inj H
          have hcz25_0 : wr.cell? ⟨gb217, 0, none⟩ = some (.int .u64 a2_0) := (blk_cell BK217.out 0).trans rfl
          have hcz25_1 : wr.cell? ⟨gb217, 1, none⟩ = some (.int .u64 a2_1) := (blk_cell BK217.out 1).trans rfl
          have hfz25_0 := blk_frozen BK217.out 0
          have hfz25_1 := blk_frozen BK217.out 1
          go_wp2_with (first | ((with_reducible refine gate_builtin (b := .append) (xs := #[.tmp 57, .tmp 59]) rfl ?_); at_builtin; refine Kd.R_append k52 (w0 := w) w.heap.size rfl (.tmp 57) (.tmp 59) 23 52 (.agg #[(.int .u64 0), (.int .u64 0)]) 16 rfl Try.underlying23 info52 rfl (by decide) (by omega) u9 x9_1 (⟨a2_0, a2_1⟩ : S52) [.int .u64 a2_0, .int .u64 a2_1] (fun k_ => k_ ≠ gb217) (fun _ => False) rfl rfl ?aP (fun _ hk => hk.elim) ?aF ?aO ?aB ?aS ?aL ?_; (case aP => exact k52_mkM _ _ _ (⟨a2_0, a2_1⟩ : S52)); (case aB => exact (by repeat (first | (with_reducible first | exact HB.out | apply below_alloc | apply pw_below_drewN | apply below_drew1 | refine below_set ?_ GE217.out) | exact HB.out))); (case aF => exact (fun k_ hk => Kd.freshB (g := gb217) (o := .cells #[.int .u64 a2_0, .int .u64 a2_1] 52 (0, 0)) (by (with_reducible repeat (first | refine blk_drewN ?_ _ | refine blk_drew ?_ | refine blk_alloc ?_ _)); exact BK217.out) k_ hk)); (case aO => exact (by (with_reducible repeat (first | apply Kd.R_alloc | apply Kd.R_drewN | apply Kd.R_drew)); exact HO_9.out)); (case aS => exact (below_size (by repeat (first | (with_reducible first | exact HB.out | apply below_alloc | apply pw_below_drewN | apply below_drew1 | refine below_set ?_ GE217.out) | exact HB.out)))); (case aL => have := LMc24.out; omega); intro v231 w26 ho hb hg hat; rw [← Ny230.out] at ho; have n0_ := Aside0.mk (blk_grown (g := gb217) (o := .cells #[.int .u64 a2_0, .int .u64 a2_1] 52 (0, 0)) (by (with_reducible repeat (first | refine blk_drewN ?_ _ | refine blk_drew ?_ | refine blk_alloc ?_ _)); exact BK217.out) hg (Kd.R_away HO_9.out (fun _ hk => hk))); have n1_ := Aside0.mk (hb); have n2_ := Aside0.mk (ho); clear BK217; clear HB; clear HO_9; have BK217 := n0_; have HB := n1_; have HO232 := n2_; clear n0_ n1_ n2_; clear ho hb hg hat))
          repeat (go_quiet (first | ((with_reducible refine gate_builtin (b := .append) (xs := #[.tmp 57, .tmp 59]) rfl ?_); at_builtin; refine Kd.R_append k52 (w0 := w) w.heap.size rfl (.tmp 57) (.tmp 59) 23 52 (.agg #[(.int .u64 0), (.int .u64 0)]) 16 rfl Try.underlying23 info52 rfl (by decide) (by omega) u9 x9_1 (⟨a2_0, a2_1⟩ : S52) [.int .u64 a2_0, .int .u64 a2_1] (fun k_ => k_ ≠ gb217) (fun _ => False) rfl rfl ?aP (fun _ hk => hk.elim) ?aF ?aO ?aB ?aS ?aL ?_; (case aP => exact k52_mkM _ _ _ (⟨a2_0, a2_1⟩ : S52)); (case aB => exact (by repeat (first | (with_reducible first | exact HB.out | apply below_alloc | apply pw_below_drewN | apply below_drew1 | refine below_set ?_ GE217.out) | exact HB.out))); (case aF => exact (fun k_ hk => Kd.freshB (g := gb217) (o := .cells #[.int .u64 a2_0, .int .u64 a2_1] 52 (0, 0)) (by (with_reducible repeat (first | refine blk_drewN ?_ _ | refine blk_drew ?_ | refine blk_alloc ?_ _)); exact BK217.out) k_ hk)); (case aO => exact (by (with_reducible repeat (first | apply Kd.R_alloc | apply Kd.R_drewN | apply Kd.R_drew)); exact HO_9.out)); (case aS => exact (below_size (by repeat (first | (with_reducible first | exact HB.out | apply below_alloc | apply pw_below_drewN | apply below_drew1 | refine below_set ?_ GE217.out) | exact HB.out)))); (case aL => have := LMc24.out; omega); intro v231 w26 ho hb hg hat; rw [← Ny230.out] at ho; have n0_ := Aside0.mk (blk_grown (g := gb217) (o := .cells #[.int .u64 a2_0, .int .u64 a2_1] 52 (0, 0)) (by (with_reducible repeat (first | refine blk_drewN ?_ _ | refine blk_drew ?_ | refine blk_alloc ?_ _)); exact BK217.out) hg (Kd.R_away HO_9.out (fun _ hk => hk))); have n1_ := Aside0.mk (hb); have n2_ := Aside0.mk (ho); clear BK217; clear HB; clear HO_9; have BK217 := n0_; have HB := n1_; have HO232 := n2_; clear n0_ n1_ n2_; clear ho hb hg hat)); try go_wp2_with (first | ((with_reducible refine gate_builtin (b := .append) (xs := #[.tmp 57, .tmp 59]) rfl ?_); at_builtin; refine Kd.R_append k52 (w0 := w) w.heap.size rfl (.tmp 57) (.tmp 59) 23 52 (.agg #[(.int .u64 0), (.int .u64 0)]) 16 rfl Try.underlying23 info52 rfl (by decide) (by omega) u9 x9_1 (⟨a2_0, a2_1⟩ : S52) [.int .u64 a2_0, .int .u64 a2_1] (fun k_ => k_ ≠ gb217) (fun _ => False) rfl rfl ?aP (fun _ hk => hk.elim) ?aF ?aO ?aB ?aS ?aL ?_; (case aP => exact k52_mkM _ _ _ (⟨a2_0, a2_1⟩ : S52)); (case aB => exact (by repeat (first | (with_reducible first | exact HB.out | apply below_alloc | apply pw_below_drewN | apply below_drew1 | refine below_set ?_ GE217.out) | exact HB.out))); (case aF => exact (fun k_ hk => Kd.freshB (g := gb217) (o := .cells #[.int .u64 a2_0, .int .u64 a2_1] 52 (0, 0)) (by (with_reducible repeat (first | refine blk_drewN ?_ _ | refine blk_drew ?_ | refine blk_alloc ?_ _)); exact BK217.out) k_ hk)); (case aO => exact (by (with_reducible repeat (first | apply Kd.R_alloc | apply Kd.R_drewN | apply Kd.R_drew)); exact HO_9.out)); (case aS => exact (below_size (by repeat (first | (with_reducible first | exact HB.out | apply below_alloc | apply pw_below_drewN | apply below_drew1 | refine below_set ?_ GE217.out) | exact HB.out)))); (case aL => have := LMc24.out; omega); intro v231 w26 ho hb hg hat; rw [← Ny230.out] at ho; have n0_ := Aside0.mk (blk_grown (g := gb217) (o := .cells #[.int .u64 a2_0, .int .u64 a2_1] 52 (0, 0)) (by (with_reducible repeat (first | refine blk_drewN ?_ _ | refine blk_drew ?_ | refine blk_alloc ?_ _)); exact BK217.out) hg (Kd.R_away HO_9.out (fun _ hk => hk))); have n1_ := Aside0.mk (hb); have n2_ := Aside0.mk (ho); clear BK217; clear HB; clear HO_9; have BK217 := n0_; have HB := n1_; have HO232 := n2_; clear n0_ n1_ n2_; clear ho hb hg hat)))
          go_ret
          exact ⟨_, by first | rfl | (simp [errW_none, errW_some] <;> rfl) | (simp [*, errW_none, errW_some] <;> rfl), by (with_reducible repeat (first | apply Kd.R_alloc | apply Kd.R_drewN | apply Kd.R_drew)); exact Kd.R_mono HO232.out (fun _ hk => trivial), by repeat (first | (with_reducible first | exact HB.out | apply below_alloc | apply pw_below_drewN | apply below_drew1 | refine below_set ?_ GE217.out) | exact HB.out)⟩
        · rw [if_neg c24] at H
          exact absurd H (by simp)
attribute [local go_sem] max2_int min2_int max_two min_two max_three min_three max_four min_four   -- for this text's walks alone
set_option linter.unusedVariables false
set_option linter.unusedSimpArgs false
def wigwagref02_PushMax.f (k : Nat) (l0 : List (S52)) (a1 : Int) (a2_0 : Int) (a2_1 : Int) : Option ((List (S52))) := (wigwagref02_push.f k l0 a1 a2_0 a2_1 true).bind fun t234 => (some t234)
set_option maxHeartbeats 8000000 in
set_option maxRecDepth 100000 in
theorem wigwagref02_PushMax.calls (k : Nat) (A0 : Option Addr) (c0 : Nat) (l0 : List (S52)) (a1 : Int) (a2_0 : Int) (a2_1 : Int) (r : List (S52)) (w : World) (hr0 : Kd.C k52 w A0 l0.length l0) (hc0 : l0.length ≤ c0) (h : wigwagref02_PushMax.f k l0 a1 a2_0 a2_1 = some r) :
    Calls Try.prog 33 #[.slice A0 l0.length c0, .int .u64 a1, .agg #[.int .u64 a2_0, .int .u64 a2_1]] w fun e w' => ∃ v0_ : Value, e = .returned (v0_) ∧ Kd.R k52 52 w' w.heap.size (fun _ => True) v0_ r ∧ Below w.heap.size w w' := by
  have hu52 := Try.underlying52
  have HR0 := Aside0.mk hr0
  have HC0 := Aside0.mk hc0
  clear hr0 hc0
  have HB := Aside0.mk (Below.refl w.heap.size w)
  have H : ((wigwagref02_push.f k l0 a1 a2_0 a2_1 true).bind fun t234 => (some t234)) = some r := h
  clear h
  replace H := Option.bind_eq_some_iff.mp H
  obtain ⟨t234, A40, H⟩ := H
  replace H : (some t234) = some r := H
  have A4 := Aside0.mk A40
  clear A40
  obtain rfl := Option.some.inj H
  go_enter Try.func33, Try.ntmps33
  go_wp2_with (first | ((with_reducible refine gate_dst (N := 5) rfl ?_); refine box_event ?hg (N := 5) ?hd (cs := #[.int .u64 a2_0, .int .u64 a2_1]) (t := 52) ?hr ?_; (case hd => rfl); (case hg => rfl); (case hr => first | (go_simp; done) | (go_simp; rfl)); intro gb233 hg w5 hbox hb; have n0_ := Aside0.mk (below_step (by repeat (first | (with_reducible first | exact HB.out | apply below_alloc | apply pw_below_drewN | apply below_drew1) | exact HB.out)) hb); have n1_ := Aside0.mk (hbox); have n2_ := Aside0.mk ((by rw [hg]; exact (below_size (by repeat (first | (with_reducible first | exact HB.out | apply below_alloc | apply pw_below_drewN | apply below_drew1) | exact HB.out))) : w.heap.size ≤ gb233)); have n3_ := Aside0.mk ((by rw [hg]; exact (below_size (by repeat (first | (with_reducible first | exact HB.out | apply below_alloc | apply pw_below_drewN | apply below_drew1) | exact HB.out))) : w.heap.size ≤ gb233)); clear HB; have HB := n0_; have BK233 := n1_; have GW233 := n2_; have GE233 := n3_; clear n0_ n1_ n2_ n3_; clear hb hbox hg; have hcz6_0 : w5.cell? ⟨gb233, 0, none⟩ = some (.int .u64 a2_0) := (blk_cell BK233.out 0).trans rfl; have hcz6_1 : w5.cell? ⟨gb233, 1, none⟩ = some (.int .u64 a2_1) := (blk_cell BK233.out 1).trans rfl; have hfz6_0 := blk_frozen BK233.out 0; have hfz6_1 := blk_frozen BK233.out 1) | ((with_reducible refine gate_callee (f := 44) rfl ?_); refine goesL_ (some 10) rfl rfl Try.func44 (by kernel_rfl) rfl #[.slice A0 l0.length c0, .int .u64 a1, .agg #[.int .u64 a2_0, .int .u64 a2_1], .bool true] rfl (by (try simp only [List.map_toArray, List.map_cons, List.map_nil]); first | done | rfl | (simp only [List.length_drop, List.length_take]; rfl)) ?_; (with_reducible refine (wigwagref02_push.calls k _ _ l0 a1 a2_0 a2_1 true t234 _ ?side1 ?side2 A4.out).mono ?_); (case side1 => repeat (first | exact (Kd.C_below HR0.out HB.out) | (with_reducible refine Kd.C_alloc ?_ _) | (with_reducible refine Kd.C_drewN ?_ _) | (with_reducible refine Kd.C_drew ?_))); (case side2 => exact HC0.out); rintro e w7 ⟨v235, rfl, ho0, hb⟩; refine ⟨_, rfl, ?_⟩; have n0_ := Aside0.mk (Kd.R_lower (Kd.R_newB ho0 (g := gb233) (o := .cells #[.int .u64 a2_0, .int .u64 a2_1] 52 (0, 0)) (by (with_reducible repeat (first | refine blk_drewN ?_ _ | refine blk_drew ?_ | refine blk_alloc ?_ _)); exact BK233.out)) (below_size (by repeat (first | (with_reducible first | exact HB.out | apply below_alloc | apply pw_below_drewN | apply below_drew1 | refine below_set ?_ GE233.out) | exact HB.out)))); have n1_ := Aside0.mk (blk_below (g := gb233) (o := .cells #[.int .u64 a2_0, .int .u64 a2_1] 52 (0, 0)) (by (with_reducible repeat (first | refine blk_drewN ?_ _ | refine blk_drew ?_ | refine blk_alloc ?_ _)); exact BK233.out) hb); have n2_ := Aside0.mk (below_step (by repeat (first | (with_reducible first | exact HB.out | apply below_alloc | apply pw_below_drewN | apply below_drew1 | refine below_set ?_ GE233.out) | exact HB.out)) hb); clear BK233; clear HB; have HO236 := n0_; have BK233 := n1_; have HB := n2_; clear n0_ n1_ n2_; (try clear hb); (try clear hb2); (try clear hk); (try clear hi); (try clear ho0)))
  go_ret
  exact ⟨_, by first | rfl | (simp [errW_none, errW_some] <;> rfl) | (simp [*, errW_none, errW_some] <;> rfl), by (with_reducible repeat (first | apply Kd.R_alloc | apply Kd.R_drewN | apply Kd.R_drew)); exact Kd.R_mono HO236.out (fun _ hk => trivial), by repeat (first | (with_reducible first | exact HB.out | apply below_alloc | apply pw_below_drewN | apply below_drew1 | refine below_set ?_ GE233.out) | exact HB.out)⟩
def wigwagref01_wide.f (a0 : Int) (a1 : Int) : Option (Int × Int) := some (IntKind.u64.wrap ((IntKind.u64.wrap ((IntKind.u64.wrap ((IntKind.u64.wrap ((a0 / 4294967296) * (a1 / 4294967296))) + ((IntKind.u64.wrap ((a0 / 4294967296) * (Go.bits .and .u64 a1 4294967295))) / 4294967296))) + ((IntKind.u64.wrap ((Go.bits .and .u64 a0 4294967295) * (a1 / 4294967296))) / 4294967296))) + ((IntKind.u64.wrap ((IntKind.u64.wrap (((IntKind.u64.wrap ((Go.bits .and .u64 a0 4294967295) * (Go.bits .and .u64 a1 4294967295))) / 4294967296) + (Go.bits .and .u64 (IntKind.u64.wrap ((a0 / 4294967296) * (Go.bits .and .u64 a1 4294967295))) 4294967295))) + (Go.bits .and .u64 (IntKind.u64.wrap ((Go.bits .and .u64 a0 4294967295) * (a1 / 4294967296))) 4294967295))) / 4294967296)), IntKind.u64.wrap ((IntKind.u64.wrap ((IntKind.u64.wrap ((IntKind.u64.wrap (((IntKind.u64.wrap ((Go.bits .and .u64 a0 4294967295) * (Go.bits .and .u64 a1 4294967295))) / 4294967296) + (Go.bits .and .u64 (IntKind.u64.wrap ((a0 / 4294967296) * (Go.bits .and .u64 a1 4294967295))) 4294967295))) + (Go.bits .and .u64 (IntKind.u64.wrap ((Go.bits .and .u64 a0 4294967295) * (a1 / 4294967296))) 4294967295))) * 4294967296)) + (Go.bits .and .u64 (IntKind.u64.wrap ((Go.bits .and .u64 a0 4294967295) * (Go.bits .and .u64 a1 4294967295))) 4294967295)))
set_option maxHeartbeats 8000000 in
set_option maxRecDepth 100000 in
theorem wigwagref01_wide.calls (a0 : Int) (a1 : Int) (r1 : Int) (r2 : Int) (w : World) (h : wigwagref01_wide.f a0 a1 = some (r1, r2)) :
    Calls Try.prog 48 #[.int .u64 a0, .int .u64 a1] w fun e w' => e = .returned (.tuple #[.int .u64 r1, .int .u64 r2]) ∧ Drawn0 w w' := by
  have H : (some (IntKind.u64.wrap ((IntKind.u64.wrap ((IntKind.u64.wrap ((IntKind.u64.wrap ((a0 / 4294967296) * (a1 / 4294967296))) + ((IntKind.u64.wrap ((a0 / 4294967296) * (Go.bits .and .u64 a1 4294967295))) / 4294967296))) + ((IntKind.u64.wrap ((Go.bits .and .u64 a0 4294967295) * (a1 / 4294967296))) / 4294967296))) + ((IntKind.u64.wrap ((IntKind.u64.wrap (((IntKind.u64.wrap ((Go.bits .and .u64 a0 4294967295) * (Go.bits .and .u64 a1 4294967295))) / 4294967296) + (Go.bits .and .u64 (IntKind.u64.wrap ((a0 / 4294967296) * (Go.bits .and .u64 a1 4294967295))) 4294967295))) + (Go.bits .and .u64 (IntKind.u64.wrap ((Go.bits .and .u64 a0 4294967295) * (a1 / 4294967296))) 4294967295))) / 4294967296)), IntKind.u64.wrap ((IntKind.u64.wrap ((IntKind.u64.wrap ((IntKind.u64.wrap (((IntKind.u64.wrap ((Go.bits .and .u64 a0 4294967295) * (Go.bits .and .u64 a1 4294967295))) / 4294967296) + (Go.bits .and .u64 (IntKind.u64.wrap ((a0 / 4294967296) * (Go.bits .and .u64 a1 4294967295))) 4294967295))) + (Go.bits .and .u64 (IntKind.u64.wrap ((Go.bits .and .u64 a0 4294967295) * (a1 / 4294967296))) 4294967295))) * 4294967296)) + (Go.bits .and .u64 (IntKind.u64.wrap ((Go.bits .and .u64 a0 4294967295) * (Go.bits .and .u64 a1 4294967295))) 4294967295)))) = some (r1, r2) := h
  clear h
  simp only [Option.some.injEq, Prod.mk.injEq] at H
  obtain ⟨rfl, rfl⟩ := H
  go_enter Try.func48, Try.ntmps48
  go_wp2
  go_ret2
  exact ⟨by first | rfl | (simp; done) | (simp [*]; done), by repeat (first | exact Drawn0.refl _ | apply Drawn0.step)⟩
attribute [local go_sem] max2_int min2_int max_two min_two max_three min_three max_four min_four   -- for this text's walks alone
set_option linter.unusedVariables false
set_option linter.unusedSimpArgs false
mutual
def wigwagref01_MulDiv.j0 : Nat → Int → Int → Int → Bool → Option (Int)
  | 0, _, _, _, _ => none
  | k + 1, x2, x7, x8, x24 => if x24 = true then (some 0) else (if x7 ≥ x2 then (some 18446744073709551615) else (wigwagref01_MulDiv.l0 k x2 x8 x7 0 63))
def wigwagref01_MulDiv.l0 : Nat → Int → Int → Int → Int → Int → Option (Int)
  | 0, _, _, _, _, _ => none
  | k + 1, x2, x8, x9, x10, x11 => if x11 ≥ 0 then (if 0 ≤ (IntKind.u64.wrap (x11)) then (if (x9 / 9223372036854775808) = 1 then (wigwagref01_MulDiv.l0 k x2 x8 (IntKind.u64.wrap ((IntKind.u64.wrap ((IntKind.u64.wrap (x9 * 2)) + (Go.bits .and .u64 (shr .u64 x8 (IntKind.u64.wrap (x11))) 1))) - x2)) (IntKind.u64.wrap ((IntKind.u64.wrap (x10 * 2)) + 1)) (wrap64 (x11 - 1))) else (if (IntKind.u64.wrap ((IntKind.u64.wrap (x9 * 2)) + (Go.bits .and .u64 (shr .u64 x8 (IntKind.u64.wrap (x11))) 1))) ≥ x2 then (wigwagref01_MulDiv.l0 k x2 x8 (IntKind.u64.wrap ((IntKind.u64.wrap ((IntKind.u64.wrap (x9 * 2)) + (Go.bits .and .u64 (shr .u64 x8 (IntKind.u64.wrap (x11))) 1))) - x2)) (IntKind.u64.wrap ((IntKind.u64.wrap (x10 * 2)) + 1)) (wrap64 (x11 - 1))) else (wigwagref01_MulDiv.l0 k x2 x8 (IntKind.u64.wrap ((IntKind.u64.wrap (x9 * 2)) + (Go.bits .and .u64 (shr .u64 x8 (IntKind.u64.wrap (x11))) 1))) (IntKind.u64.wrap (x10 * 2)) (wrap64 (x11 - 1))))) else (none)) else (some x10)
end
def wigwagref01_MulDiv.f (k : Nat) (a0 : Int) (a1 : Int) (a2 : Int) : Option (Int) := (wigwagref01_wide.f a0 a1).bind fun bt237 => (if bt237.1 = 0 then (wigwagref01_MulDiv.j0 k a2 bt237.1 bt237.2 (bt237.2 == 0)) else (wigwagref01_MulDiv.j0 k a2 bt237.1 bt237.2 false))
set_option maxHeartbeats 8000000 in
set_option maxRecDepth 100000 in
theorem wigwagref01_MulDiv.calls (k : Nat) (a0 : Int) (a1 : Int) (a2 : Int) (r : Int) (w : World) (h : wigwagref01_MulDiv.f k a0 a1 a2 = some r) :
    Calls Try.prog 36 #[.int .u64 a0, .int .u64 a1, .int .u64 a2] w fun e w' => e = .returned (.int .u64 r) ∧ Drawn0 w w' := by
  have H : ((wigwagref01_wide.f a0 a1).bind fun bt237 => (if bt237.1 = 0 then (wigwagref01_MulDiv.j0 k a2 bt237.1 bt237.2 (bt237.2 == 0)) else (wigwagref01_MulDiv.j0 k a2 bt237.1 bt237.2 false))) = some r := h
  clear h
  replace H := Option.bind_eq_some_iff.mp H
  obtain ⟨⟨t237, t238⟩, A40, H⟩ := H
  replace H : (if t237 = 0 then (wigwagref01_MulDiv.j0 k a2 t237 t238 (t238 == 0)) else (wigwagref01_MulDiv.j0 k a2 t237 t238 false)) = some r := H
  have A4 := Aside0.mk A40
  clear A40
  have HC5 := Aside0.mk H
  clear H
  go_enter Try.func36, Try.ntmps36
  go_upto_region 2 with (first | ((with_reducible refine gate_callee (f := 48) rfl ?_); refine goesL_ (some 16) rfl rfl Try.func48 (by kernel_rfl) rfl #[.int .u64 a0, .int .u64 a1] rfl (by (try simp only [List.map_toArray, List.map_cons, List.map_nil]); first | done | rfl | (simp only [List.length_drop, List.length_take]; rfl)) ?_; (with_reducible refine (wigwagref01_wide.calls a0 a1 t237 t238 _ A4.out).mono ?_); rintro e w' ⟨rfl, ⟨nd, rfl⟩⟩; refine ⟨_, rfl, ?_⟩))
  (try simp only [Act.put, List.setIfInBounds_toArray, List.set_cons_zero, List.set_cons_succ])
  go_cut [24] (fun v24 wc => ∃ (kq : Nat) (x24_4 : Bool), v24 = .bool x24_4 ∧ Aside0 (wigwagref01_MulDiv.j0 kq a2 t237 t238 x24_4 = some r) ∧ Aside0 (kq ≤ k) ∧ Drawn0 w wc)
  case first =>
    have H := HC5.out
    clear HC5
    by_cases c6 : t237 = 0
    · rw [if_pos c6] at H
      have c6b0 : (t237 == 0) = true := beq_iff_eq.mpr c6
      have c6b1 : (t237 != 0) = false := bne_eq_false_iff_eq.mpr c6
      clear c6
      (first | rw [c6b0] | (simp only [i64_w, i32_w]; rw [c6b0]) | skip)
      have H' := Aside0.mk H
      clear H
      go_wp2
      go_meet
      case rel => exact ⟨_, ((t238 == 0)), (by first | rfl | (simp; done) | (simp [*]; done)), H', ⟨by first | omega | exact Nat.le_refl _⟩, by repeat (first | exact Drawn0.refl _ | apply Drawn0.step)⟩
    · rw [if_neg c6] at H
      have c6b0 : (t237 == 0) = false := beq_eq_false_iff_ne.mpr c6
      have c6b1 : (t237 != 0) = true := bne_iff_ne.mpr c6
      (first | rw [c6b0] | (simp only [i64_w, i32_w]; rw [c6b0]) | skip)
      have H' := Aside0.mk H
      clear H
      go_wp2
      go_meet
      case rel => exact ⟨_, (false), (by first | rfl | (simp; done) | (simp [*]; done)), H', ⟨by first | omega | exact Nat.le_refl _⟩, by repeat (first | exact Drawn0.refl _ | apply Drawn0.step)⟩
  case rest =>
    clear HC5
    try clear p2
    try clear c3
    try clear c4
    try clear c6
    try clear c6b0
    try clear c6b1
    obtain ⟨kq, x24_4, rfl, HA, HJ4, ⟨mc4, rfl⟩⟩ := hcut
    cases kq with
    | zero => exact absurd HA.out (by simp [wigwagref01_MulDiv.j0])
    | succ kj4 =>
      have H := HA.out
      clear HA
      simp only [wigwagref01_MulDiv.j0] at H
      by_cases c7 : x24_4 = true
      · subst c7
        have H1 : (some 0) = some r := by rw [if_pos rfl] at H; exact H
        clear H
        have H := H1
        clear H1
        obtain rfl := Option.some.inj H
        go_wp2
        go_ret
        exact ⟨by first | rfl | (simp; done) | (simp [*]; done), by repeat (first | exact Drawn0.refl _ | apply Drawn0.step)⟩
      · replace c7 := Bool.eq_false_iff.mpr c7
        subst c7
        have H1 : (if t237 ≥ a2 then (some 18446744073709551615) else (wigwagref01_MulDiv.l0 kj4 a2 t238 t237 0 63)) = some r := by rw [if_neg (show ¬ (false = true) by decide)] at H; exact H
        clear H
        have H := H1
        clear H1
        by_cases c8 : t237 ≥ a2
        · rw [if_pos c8] at H
          have c8b0 : decide (a2 ≤ t237) = true := decide_eq_true c8
          clear c8
          obtain rfl := Option.some.inj H
          go_wp2
          go_ret
          exact ⟨by first | rfl | (simp; done) | (simp [*]; done), by repeat (first | exact Drawn0.refl _ | apply Drawn0.step)⟩
        · rw [if_neg c8] at H
          have c8b0 : decide (a2 ≤ t237) = false := decide_eq_false c8
          clear c8
          have H' := Aside0.mk H
          clear H
          go_wp2
          go_loopg [9, 10, 11] kj4 (fun kq v9 v10 v11 w' => ∃ (x9_2 : Int) (x10_2 : Int) (x11_2 : Int), v9 = .int .u64 x9_2 ∧ v10 = .int .u64 x10_2 ∧ v11 = .int .i64 x11_2 ∧ Aside0 (wigwagref01_MulDiv.l0 kq a2 t238 x9_2 x10_2 x11_2 = some r) ∧ Aside0 (kq ≤ kj4) ∧ Drawn0 w w')
          case atStart => exact ⟨(t237), (0), (63), (by first | rfl | (simp; done) | (simp [*]; done)), (by first | rfl | (simp; done) | (simp [*]; done)), (by first | rfl | (simp; done) | (simp [*]; done)), H', ⟨Nat.le_refl _⟩, by repeat (first | exact Drawn0.refl _ | apply Drawn0.step)⟩
          case round =>
            clear H'
            try clear p2
            try clear c3
            try clear c4
            try clear c6
            try clear c6b0
            try clear c6b1
            try clear c7
            try clear c8
            try clear c8b0
            try clear p2
            obtain ⟨x9_2, x10_2, x11_2, rfl, rfl, rfl, HA, HK2, ⟨m2, rfl⟩⟩ := hrel
            cases gk with
            | zero => exact absurd HA.out (by simp [wigwagref01_MulDiv.l0])
            | succ k2 =>
              have H := HA.out
              clear HA
              simp only [wigwagref01_MulDiv.l0] at H
              by_cases c9 : x11_2 ≥ 0
              · rw [if_pos c9] at H
                have c9b0 : decide (0 ≤ x11_2) = true := decide_eq_true c9
                clear c9
                obtain ⟨ji10, hji10⟩ : ∃ j_ : Int, (IntKind.u64.wrap (x11_2)) = j_ := ⟨_, rfl⟩
                replace H : (if 0 ≤ (ji10) then (if (x9_2 / 9223372036854775808) = 1 then (wigwagref01_MulDiv.l0 k2 a2 t238 (IntKind.u64.wrap ((IntKind.u64.wrap ((IntKind.u64.wrap (x9_2 * 2)) + (Go.bits .and .u64 (shr .u64 t238 (ji10)) 1))) - a2)) (IntKind.u64.wrap ((IntKind.u64.wrap (x10_2 * 2)) + 1)) (wrap64 (x11_2 - 1))) else (if (IntKind.u64.wrap ((IntKind.u64.wrap (x9_2 * 2)) + (Go.bits .and .u64 (shr .u64 t238 (ji10)) 1))) ≥ a2 then (wigwagref01_MulDiv.l0 k2 a2 t238 (IntKind.u64.wrap ((IntKind.u64.wrap ((IntKind.u64.wrap (x9_2 * 2)) + (Go.bits .and .u64 (shr .u64 t238 (ji10)) 1))) - a2)) (IntKind.u64.wrap ((IntKind.u64.wrap (x10_2 * 2)) + 1)) (wrap64 (x11_2 - 1))) else (wigwagref01_MulDiv.l0 k2 a2 t238 (IntKind.u64.wrap ((IntKind.u64.wrap (x9_2 * 2)) + (Go.bits .and .u64 (shr .u64 t238 (ji10)) 1))) (IntKind.u64.wrap (x10_2 * 2)) (wrap64 (x11_2 - 1))))) else (none)) = some r := by first | (rw [hji10] at H; exact H) | (simp only [hji10] at H ⊢; exact H)
                by_cases c11 : 0 ≤ (ji10)
                · rw [if_pos c11] at H
                  have c11b0 := eq_true c11
                  have c11b1 : decide (0 ≤ (ji10)) = true := decide_eq_true c11
                  clear c11
                  obtain ⟨ji12, hji12⟩ : ∃ j_ : Int, (shr .u64 t238 (ji10)) = j_ := ⟨_, rfl⟩
                  replace H : (if (x9_2 / 9223372036854775808) = 1 then (wigwagref01_MulDiv.l0 k2 a2 t238 (IntKind.u64.wrap ((IntKind.u64.wrap ((IntKind.u64.wrap (x9_2 * 2)) + (Go.bits .and .u64 (ji12) 1))) - a2)) (IntKind.u64.wrap ((IntKind.u64.wrap (x10_2 * 2)) + 1)) (wrap64 (x11_2 - 1))) else (if (IntKind.u64.wrap ((IntKind.u64.wrap (x9_2 * 2)) + (Go.bits .and .u64 (ji12) 1))) ≥ a2 then (wigwagref01_MulDiv.l0 k2 a2 t238 (IntKind.u64.wrap ((IntKind.u64.wrap ((IntKind.u64.wrap (x9_2 * 2)) + (Go.bits .and .u64 (ji12) 1))) - a2)) (IntKind.u64.wrap ((IntKind.u64.wrap (x10_2 * 2)) + 1)) (wrap64 (x11_2 - 1))) else (wigwagref01_MulDiv.l0 k2 a2 t238 (IntKind.u64.wrap ((IntKind.u64.wrap (x9_2 * 2)) + (Go.bits .and .u64 (ji12) 1))) (IntKind.u64.wrap (x10_2 * 2)) (wrap64 (x11_2 - 1))))) = some r := by first | (rw [hji12] at H; exact H) | (simp only [hji12] at H ⊢; exact H)
                  have hji12_ : (t238 / 2 ^ min (ji10).toNat 64) = ji12 := hji12
                  have hji12z : (ji10) ≤ 64 → (t238 / 2 ^ (ji10).toNat) = ji12 := shr_small hji12
                  by_cases c13 : (x9_2 / 9223372036854775808) = 1
                  · rw [if_pos c13] at H
                    have c13b0 : ((x9_2 / 9223372036854775808) == 1) = true := beq_iff_eq.mpr c13
                    have c13b1 : ((x9_2 / 9223372036854775808) != 1) = false := bne_eq_false_iff_eq.mpr c13
                    clear c13
                    have H' := Aside0.mk H
                    clear H
                    go_wp2
                    go_roundg k2
                    case measure => have := HJ4.out; have := HK2.out; omega
                    case rel => exact ⟨(IntKind.u64.wrap ((IntKind.u64.wrap ((IntKind.u64.wrap (x9_2 * 2)) + (Go.bits .and .u64 (ji12) 1))) - a2)), (IntKind.u64.wrap ((IntKind.u64.wrap (x10_2 * 2)) + 1)), (wrap64 (x11_2 - 1)), (by first | rfl | (simp; done) | (simp only [← hji12] <;> (first | rfl | simp)) | (simp [*]; done)), (by first | rfl | (simp; done) | (simp [*]; done)), (by first | rfl | (simp; done) | (simp [*]; done)), H', ⟨by have := HJ4.out; have := HK2.out; omega⟩, by repeat (first | exact Drawn0.refl _ | apply Drawn0.step)⟩
                  · rw [if_neg c13] at H
                    have c13b0 : ((x9_2 / 9223372036854775808) == 1) = false := beq_eq_false_iff_ne.mpr c13
                    have c13b1 : ((x9_2 / 9223372036854775808) != 1) = true := bne_iff_ne.mpr c13
                    by_cases c14 : (IntKind.u64.wrap ((IntKind.u64.wrap (x9_2 * 2)) + (Go.bits .and .u64 (ji12) 1))) ≥ a2
                    · rw [if_pos c14] at H
                      have c14b0 : decide (a2 ≤ (IntKind.u64.wrap ((IntKind.u64.wrap (x9_2 * 2)) + (Go.bits .and .u64 (ji12) 1)))) = true := decide_eq_true c14
                      clear c14
                      have H' := Aside0.mk H
                      clear H
                      go_wp2
                      go_roundg k2
                      case measure => have := HJ4.out; have := HK2.out; omega
                      case rel => exact ⟨(IntKind.u64.wrap ((IntKind.u64.wrap ((IntKind.u64.wrap (x9_2 * 2)) + (Go.bits .and .u64 (ji12) 1))) - a2)), (IntKind.u64.wrap ((IntKind.u64.wrap (x10_2 * 2)) + 1)), (wrap64 (x11_2 - 1)), (by first | rfl | (simp; done) | (simp only [← hji12] <;> (first | rfl | simp)) | (simp [*]; done)), (by first | rfl | (simp; done) | (simp [*]; done)), (by first | rfl | (simp; done) | (simp [*]; done)), H', ⟨by have := HJ4.out; have := HK2.out; omega⟩, by repeat (first | exact Drawn0.refl _ | apply Drawn0.step)⟩
                    · rw [if_neg c14] at H
                      have c14b0 : decide (a2 ≤ (IntKind.u64.wrap ((IntKind.u64.wrap (x9_2 * 2)) + (Go.bits .and .u64 (ji12) 1)))) = false := decide_eq_false c14
                      clear c14
                      have H' := Aside0.mk H
                      clear H
                      go_wp2
                      go_roundg k2
                      case measure => have := HJ4.out; have := HK2.out; omega
                      case rel => exact ⟨(IntKind.u64.wrap ((IntKind.u64.wrap (x9_2 * 2)) + (Go.bits .and .u64 (ji12) 1))), (IntKind.u64.wrap (x10_2 * 2)), (wrap64 (x11_2 - 1)), (by first | rfl | (simp; done) | (simp only [← hji12] <;> (first | rfl | simp)) | (simp [*]; done)), (by first | rfl | (simp; done) | (simp [*]; done)), (by first | rfl | (simp; done) | (simp [*]; done)), H', ⟨by have := HJ4.out; have := HK2.out; omega⟩, by repeat (first | exact Drawn0.refl _ | apply Drawn0.step)⟩
                · rw [if_neg c11] at H
                  exact absurd H (by simp)
              · rw [if_neg c9] at H
                have c9b0 : decide (0 ≤ x11_2) = false := decide_eq_false c9
                clear c9
                obtain rfl := Option.some.inj H
                go_wp2
                go_ret
                exact ⟨by first | rfl | (simp; done) | (simp [*]; done), by repeat (first | exact Drawn0.refl _ | apply Drawn0.step)⟩
attribute [local go_sem] max2_int min2_int max_two min_two max_three min_three max_four min_four   -- for this text's walks alone
set_option linter.unusedVariables false
set_option linter.unusedSimpArgs false
theorem wide_tells (a b : Int) (h1 : W64 a) (h2 : W64 b) : wigwagref01_wide.f a b = some (a * b / 18446744073709551616, a * b % 18446744073709551616) := by
  obtain ⟨ah, hah⟩ : ∃ z, a / 4294967296 = z := ⟨_, rfl⟩
  obtain ⟨al, hal⟩ : ∃ z, a % 4294967296 = z := ⟨_, rfl⟩
  obtain ⟨bh, hbh⟩ : ∃ z, b / 4294967296 = z := ⟨_, rfl⟩
  obtain ⟨bl, hbl⟩ : ∃ z, b % 4294967296 = z := ⟨_, rfl⟩
  have hab : a * b = ah * bh * 18446744073709551616 + (ah * bl + al * bh) * 4294967296 + al * bl := by
    have ea : a = ah * 4294967296 + al := by omega
    have eb : b = bh * 4294967296 + bl := by omega
    rw [ea, eb, Int.add_mul, Int.mul_add, Int.mul_add]
    have e1 : ah * 4294967296 * (bh * 4294967296) = ah * bh * 18446744073709551616 := by
      rw [Int.mul_assoc, Int.mul_left_comm 4294967296, ← Int.mul_assoc, Int.mul_comm 4294967296 4294967296]; rfl
    have e2 : ah * 4294967296 * bl = ah * bl * 4294967296 := by rw [Int.mul_assoc, Int.mul_comm 4294967296, ← Int.mul_assoc]
    have e3 : al * (bh * 4294967296) = al * bh * 4294967296 := by rw [Int.mul_assoc]
    omega
  have p1 := mul_bd (a := ah) (b := bh) (A := 4294967295) (B := 4294967295) (by omega) (by omega) (by omega) (by omega)
  have p2 := mul_bd (a := ah) (b := bl) (A := 4294967295) (B := 4294967295) (by omega) (by omega) (by omega) (by omega)
  have p3 := mul_bd (a := al) (b := bh) (A := 4294967295) (B := 4294967295) (by omega) (by omega) (by omega) (by omega)
  have p4 := mul_bd (a := al) (b := bl) (A := 4294967295) (B := 4294967295) (by omega) (by omega) (by omega) (by omega)
  unfold wigwagref01_wide.f
  rw [and_mask a h1, and_mask b h2, hah, hal, hbh, hbl, hab]
  generalize ah * bh = m1 at *
  generalize ah * bl = m2 at *
  generalize al * bh = m3 at *
  generalize al * bl = m4 at *
  rw [w64 (x := m1) (by omega), w64 (x := m2) (by omega), w64 (x := m3) (by omega), w64 (x := m4) (by omega), and_mask m2 (by omega), and_mask m3 (by omega), and_mask m4 (by omega)]
  clear hab hah hal hbh hbl h1 h2
  rw [w64 (x := m4 / 4294967296 + m2 % 4294967296) (by omega), w64 (x := m4 / 4294967296 + m2 % 4294967296 + m3 % 4294967296) (by omega)]
  rw [w64 (x := m1 + m2 / 4294967296) (by omega), w64 (x := m1 + m2 / 4294967296 + m3 / 4294967296) (by omega), w64 (x := m1 + m2 / 4294967296 + m3 / 4294967296 + (m4 / 4294967296 + m2 % 4294967296 + m3 % 4294967296) / 4294967296) (by omega)]
  rw [ww, ww]
  congr 2 <;> omega
theorem and_one (x : Int) (h : W64 x) : Go.bits .and .u64 x 1 = x % 2 := by
  rw [u64_and x 1 h.1 (by omega) (by omega) (by omega)]
  have e : (1 : Int).toNat = 1 := rfl
  rw [e, Nat.and_one_is_mod]
  omega
theorem refdiv_l0 (c lo : Int) (hc : 0 < c) (hc' : c ≤ 18446744073709551615) (hlo : W64 lo) : ∀ (n k : Nat) (X : Int), 0 ≤ X → n ≤ 64 → n < k →
    wigwagref01_MulDiv.l0 k c lo (X % c) (X / c % 18446744073709551616) ((n : Int) - 1) = some ((X * 2 ^ n + lo % 2 ^ n) / c % 18446744073709551616)
  | 0, k, X, hX, hn, hk => by
    obtain ⟨k, rfl⟩ : ∃ m, k = m + 1 := ⟨k - 1, by omega⟩
    simp only [wigwagref01_MulDiv.l0]
    rw [if_neg (by omega)]
    simp [Int.emod_one]
  | n + 1, k, X, hX, hn, hk => by
    obtain ⟨k, rfl⟩ : ∃ m, k = m + 1 := ⟨k - 1, by omega⟩
    have hp : (0 : Int) < 2 ^ n := Int.pow_pos (by omega)
    have ew : IntKind.u64.wrap ((n + 1 : Nat) - 1 : Int) = n := by rw [w64 (by omega)]; omega
    have es : shr .u64 lo (n : Int) = lo / 2 ^ n := by
      unfold shr
      rw [Int.toNat_natCast, Nat.min_eq_left (by show n ≤ 64; omega)]
    have hd0 : 0 ≤ lo / 2 ^ n := Int.ediv_nonneg hlo.1 (by omega)
    have hd1 : lo / 2 ^ n ≤ lo := Int.ediv_le_self _ hlo.1
    have hr0 := Int.emod_nonneg X (b := c) (by omega)
    have hr1 := Int.emod_lt_of_pos X hc
    have hX0 := Int.emod_add_mul_ediv X c
    have hq0 : 0 ≤ X / c := Int.ediv_nonneg hX (by omega)
    have ei : wrap64 (((n + 1 : Nat) : Int) - 1 - 1) = (n : Int) - 1 := by unfold wrap64; omega
    obtain ⟨bit, hbit⟩ : ∃ z, lo / 2 ^ n % 2 = z := ⟨_, rfl⟩
    have hb : bit = 0 ∨ bit = 1 := by omega
    -- what is left of lo
    have hlow : lo % 2 ^ (n + 1) = bit * 2 ^ n + lo % 2 ^ n := by
      have e1 := Int.emod_add_mul_ediv lo (2 ^ n)
      have e2 := Int.emod_nonneg lo (b := 2 ^ n) (by omega)
      have e3 := Int.emod_lt_of_pos lo hp
      have e4 : lo = (bit * 2 ^ n + lo % 2 ^ n) + 2 ^ (n + 1) * (lo / 2 ^ n / 2) := by
        have e5 : lo / 2 ^ n = 2 * (lo / 2 ^ n / 2) + bit := by omega
        have e6 : 2 ^ n * (lo / 2 ^ n) = 2 ^ (n + 1) * (lo / 2 ^ n / 2) + bit * 2 ^ n := by
          rw [Int.pow_succ]
          generalize lo / 2 ^ n / 2 = z at *
          rw [e5, Int.mul_add, Int.mul_assoc, Int.mul_comm bit]
        omega
      have hP : (2 : Int) ^ (n + 1) = 2 ^ n + 2 ^ n := by rw [Int.pow_succ]; omega
      have hlt : 0 ≤ bit * 2 ^ n + lo % 2 ^ n ∧ bit * 2 ^ n + lo % 2 ^ n < 2 ^ (n + 1) := by
        rcases hb with rfl | rfl <;> omega
      rw [e4, Int.add_mul_emod_self_left, Int.emod_eq_of_lt hlt.1 hlt.2, ← e4]
    have efin : X * 2 ^ (n + 1) + lo % 2 ^ (n + 1) = (2 * X + bit) * 2 ^ n + lo % 2 ^ n := by
      rw [hlow, Int.pow_succ, Int.add_mul, ← Int.mul_assoc, Int.mul_comm 2 X, Int.mul_assoc X 2, Int.mul_comm 2 (2 ^ n), Int.mul_assoc]
      omega
    rw [efin]
    have ih := refdiv_l0 c lo hc hc' hlo n k (2 * X + bit) (by omega) (by omega) (by omega)
    have hand : Go.bits .and .u64 (shr .u64 lo (IntKind.u64.wrap ((n + 1 : Nat) - 1 : Int))) 1 = bit := by rw [ew, es, and_one _ (by omega), hbit]
    simp only [wigwagref01_MulDiv.l0]
    rw [if_pos (by omega), if_pos (by rw [ew]; omega), hand, ei]
    -- the two ways
    have hout : ∀ Q : Int, (X / c % 18446744073709551616 * 2 % 18446744073709551616 + Q) % 18446744073709551616 = (2 * (X / c) + Q) % 18446744073709551616 := by intro Q; omega
    have hyes : c ≤ 2 * (X % c) + bit → (2 * X + bit) / c = 2 * (X / c) + 1 ∧ (2 * X + bit) % c = 2 * (X % c) + bit - c := by
      intro hge
      have e : 2 * X + bit = (2 * (X % c) + bit - c) + c * (2 * (X / c) + 1) := by rw [Int.mul_add, Int.mul_left_comm]; omega
      constructor
      · rw [e, Int.add_mul_ediv_left _ _ (by omega), Int.ediv_eq_zero_of_lt (by omega) (by omega)]; omega
      · rw [e, Int.add_mul_emod_self_left, Int.emod_eq_of_lt (by omega) (by omega)]
    have hno : 2 * (X % c) + bit < c → (2 * X + bit) / c = 2 * (X / c) ∧ (2 * X + bit) % c = 2 * (X % c) + bit := by
      intro hlt
      have e : 2 * X + bit = (2 * (X % c) + bit) + c * (2 * (X / c)) := by rw [Int.mul_left_comm]; omega
      constructor
      · rw [e, Int.add_mul_ediv_left _ _ (by omega), Int.ediv_eq_zero_of_lt (by omega) (by omega)]; omega
      · rw [e, Int.add_mul_emod_self_left, Int.emod_eq_of_lt (by omega) (by omega)]
    generalize X / c = Q at *
    generalize X % c = L at *
    generalize (2 * X + bit) / c = Q' at *
    generalize (2 * X + bit) % c = L' at *
    simp only [ww]
    by_cases hov : L / 9223372036854775808 = 1
    · obtain ⟨rfl, rfl⟩ := hyes (by omega)
      rw [if_pos hov, ← ih, hout]
      congr 1
      omega
    · rw [if_neg hov]
      by_cases hge : c ≤ 2 * L + bit
      · obtain ⟨rfl, rfl⟩ := hyes hge
        rw [if_pos (by omega), ← ih, hout]
        congr 1
        omega
      · obtain ⟨rfl, rfl⟩ := hno (by omega)
        rw [if_neg (by omega), ← ih]
        congr 1 <;> omega
theorem refdiv_tells (a b c : Int) (h1 : W64 a) (h2 : W64 b) (h3 : W64 c) : ∃ k, wigwagref01_MulDiv.f k a b c = some (uMulDiv a b c) := by
  have hp := Int.mul_nonneg h1.1 h2.1
  have hp' := mul_bd (A := 18446744073709551615) (B := 18446744073709551615) h1.1 h1.2 h2.1 h2.2
  refine ⟨66, ?_⟩
  unfold wigwagref01_MulDiv.f uMulDiv
  rw [wide_tells a b h1 h2]
  simp only [Option.bind_some]
  generalize a * b = p at *
  by_cases hz : p = 0
  · subst hz
    simp [wigwagref01_MulDiv.j0]
  · have e : ∀ z, (z = true → False) → wigwagref01_MulDiv.j0 66 c (p / 18446744073709551616) (p % 18446744073709551616) z = some (if c * 18446744073709551616 ≤ p then 18446744073709551615 else p / c) := by
      intro z hz'
      simp only [wigwagref01_MulDiv.j0]
      rw [if_neg hz']
      by_cases hc : c * 18446744073709551616 ≤ p
      · rw [if_pos (by omega), if_pos hc]
      · rw [if_neg (by omega), if_neg hc]
        have hlt : p / 18446744073709551616 < c := by omega
        have h := refdiv_l0 c (p % 18446744073709551616) (by omega) (by omega) (w64_mod p) 64 65 (p / 18446744073709551616) (by omega) (by omega) (by omega)
        rw [Int.emod_eq_of_lt (by omega) hlt, Int.ediv_eq_zero_of_lt (by omega) hlt] at h
        have e1 : p / 18446744073709551616 * 2 ^ 64 + p % 18446744073709551616 % 2 ^ 64 = p := by omega
        rw [e1] at h
        have hq0 : 0 ≤ p / c := Int.ediv_nonneg hp h3.1
        have hq1 : p / c < 18446744073709551616 := (Int.ediv_lt_iff_lt_mul (by omega)).2 (by omega)
        refine h.trans ?_
        congr 1
        omega
    rw [if_neg hz]
    split
    · exact e _ (by simp; omega)
    · exact e _ (by simp)
def wigwagref01_MulDivT.f (a0 : Int) (a1 : Int) (a2 : Int) : Option Int := if W64 a0 ∧ W64 a1 ∧ W64 a2 then some (uMulDiv a0 a1 a2) else none
theorem wigwagref01_MulDivT.calls (a0 : Int) (a1 : Int) (a2 : Int) (r : Int) (w : World) (h : wigwagref01_MulDivT.f a0 a1 a2 = some r) :
    Calls Try.prog 36 #[.int .u64 a0, .int .u64 a1, .int .u64 a2] w fun e w' => e = .returned (.int .u64 r) ∧ Drawn0 w w' := by
  unfold wigwagref01_MulDivT.f at h
  split at h
  · rename_i hw
    obtain ⟨k, hk⟩ := refdiv_tells a0 a1 a2 hw.1 hw.2.1 hw.2.2
    exact wigwagref01_MulDiv.calls k a0 a1 a2 r w (hk.trans h)
  · cases h
theorem wigwagref01_MulDivT.C (a b c : Int) (ha : W64 a) (hb : W64 b) (hc : W64 c) (w : World) : Calls Try.prog 36 #[.int .u64 a, .int .u64 b, .int .u64 c] w fun e w' => e = .returned (.int .u64 (uMulDiv a b c)) ∧ Drawn0 w w' :=
  wigwagref01_MulDivT.calls a b c _ w (by unfold wigwagref01_MulDivT.f; rw [if_pos ⟨ha, hb, hc⟩])
theorem wigwagref01_MulDivT.Q (a b c : Int) (ha : W64 a) (hb : W64 b) (hc : W64 c) (w : World) (n : Nat) : Calls Try.prog 36 #[.int .u64 a, .int .u64 b, .int .u64 c] (w.drewN n) fun e w' => e = .returned (.int .u64 (uMulDiv a b c)) ∧ ∃ m, w' = w.drewN m := quiet_c (wigwagref01_MulDivT.C a b c ha hb hc) n
attribute [local go_sem] max2_int min2_int max_two min_two max_three min_three max_four min_four   -- for this text's walks alone
set_option linter.unusedVariables false
set_option linter.unusedSimpArgs false
def wigwagref01_Gain.f (a0 : Int) (a1 : Int) : Option (Int) := (wigwagref01_MulDivT.f a0 a1 256).bind fun t239 => (some t239)
set_option maxHeartbeats 8000000 in
set_option maxRecDepth 100000 in
theorem wigwagref01_Gain.calls (a0 : Int) (a1 : Int) (r : Int) (w : World) (h : wigwagref01_Gain.f a0 a1 = some r) :
    Calls Try.prog 38 #[.int .u64 a0, .int .u64 a1] w fun e w' => e = .returned (.int .u64 r) ∧ Drawn0 w w' := by
  have H : ((wigwagref01_MulDivT.f a0 a1 256).bind fun t239 => (some t239)) = some r := h
  clear h
  replace H := Option.bind_eq_some_iff.mp H
  obtain ⟨t239, A30, H⟩ := H
  replace H : (some t239) = some r := H
  have A3 := Aside0.mk A30
  clear A30
  obtain rfl := Option.some.inj H
  go_enter Try.func38, Try.ntmps38
  go_wp2_with (first | ((with_reducible refine gate_callee (f := 36) rfl ?_); refine goesL_ (some 7) rfl rfl Try.func36 (by kernel_rfl) rfl #[.int .u64 a0, .int .u64 a1, .int .u64 256] rfl (by (try simp only [List.map_toArray, List.map_cons, List.map_nil]); first | done | rfl | (simp only [List.length_drop, List.length_take]; rfl)) ?_; (with_reducible refine (wigwagref01_MulDivT.calls a0 a1 256 t239 _ A3.out).mono ?_); rintro e w' ⟨rfl, ⟨nd, rfl⟩⟩; refine ⟨_, rfl, ?_⟩))
  go_ret
  exact ⟨by first | rfl | (simp; done) | (simp [*]; done), by repeat (first | exact Drawn0.refl _ | apply Drawn0.step)⟩
attribute [local go_sem] max2_int min2_int max_two min_two max_three min_three max_four min_four   -- for this text's walks alone
set_option linter.unusedVariables false
set_option linter.unusedSimpArgs false
def probe_Rate.f (a0_0 : Int) (l0_1 : List (S52)) (_ _ _ _ _ a0_7 _ _ : Int) : Option Int := (filt_Best.f l0_1).bind fun b => if b = 0 then fix_MulDivT.f 12000 1000 333 else if a0_0 = 0 then fix_Gain.f b 739 else if a0_0 = 1 then fix_Gain.f b 89 else if a0_0 = 2 then (if 0 ≤ a0_7 then (if a0_7 % 8 = 0 then fix_Gain.f b 320 else if a0_7 % 8 = 1 then fix_Gain.f b 192 else fix_Gain.f b 256) else none) else fix_Gain.f b 256
set_option maxHeartbeats 4000000 in
theorem probe_Rate.way (a0_0 : Int) (A0_1 : Option Addr) (c0_1 : Nat) (l0_1 : List (S52)) (a0_2 : Int) (a0_3 : Int) (a0_4 : Int) (a0_5 : Int) (a0_6 : Int) (a0_7 : Int) (a0_8 : Int) (a0_9 : Int) (b K : Int) (r : Int) (w : World) (hr0_1 : Kd.C k52 w A0_1 l0_1.length l0_1) (hc0_1 : l0_1.length ≤ c0_1) (hb : filt_Best.f l0_1 = some b)
    (h : b = 0 ∧ fix_MulDivT.f 12000 1000 333 = some r ∨ fix_Gain.f b K = some r ∧ b ≠ 0 ∧ (a0_0 = 0 ∧ K = 739 ∨ a0_0 = 1 ∧ K = 89 ∨ a0_0 ≠ 0 ∧ a0_0 ≠ 1 ∧ a0_0 ≠ 2 ∧ K = 256)) :
    Calls Try.prog 21 #[.agg #[.int .i64 a0_0, .slice A0_1 l0_1.length c0_1, .int .u64 a0_2, .int .u64 a0_3, .int .u64 a0_4, .int .u64 a0_5, .int .u64 a0_6, .int .u64 a0_7, .int .u64 a0_8, .int .u64 a0_9]] w fun e w' => e = .returned (.int .u64 r) ∧ Below w.heap.size w w' := by
  have hu := Try.underlying26
  rcases h with ⟨h0, hm⟩ | ⟨hg, h0, ⟨h1, hK⟩ | ⟨h1, hK⟩ | ⟨h1, h2, h3, hK⟩⟩
  · have d0 : (b == 0) = true := by simp [h0]
    go_enter Try.func21, Try.ntmps21
    go_wp2_with (first | ((go_at_call 23); (with_reducible refine (filt_Best.calls _ _ l0_1 b _ (Kd.C_below hr0_1 ?kb) hc0_1 hb).mono ?_); (case kb => repeat (first | (with_reducible exact Below.refl _ _) | (with_reducible refine below_set ?_ (by simp)) | (with_reducible apply pw_below_drewN) | (with_reducible apply below_alloc))); rintro e w' ⟨rfl, ⟨nd, rfl⟩⟩) | ((go_at_call 35); (with_reducible refine (fix_MulDivT.calls _ _ _ r _ hm).mono ?_); rintro e w' ⟨rfl, ⟨nd, rfl⟩⟩))
    refine bodyPost_ret (v := .int .u64 r) (by simp [results, Try.results21, go_sem]) rfl ⟨rfl, ?_⟩
    repeat (first | (with_reducible exact Below.refl _ _) | (with_reducible refine below_set ?_ (by simp)) | (with_reducible apply pw_below_drewN) | (with_reducible apply below_alloc))
  · subst hK
    have d0 : (b == 0) = false := by simp [h0]
    have d1 : (a0_0 == 0) = true := by simp [h1]
    go_enter Try.func21, Try.ntmps21
    go_wp2_with (first | ((go_at_call 23); (with_reducible refine (filt_Best.calls _ _ l0_1 b _ (Kd.C_below hr0_1 ?kb) hc0_1 hb).mono ?_); (case kb => repeat (first | (with_reducible exact Below.refl _ _) | (with_reducible refine below_set ?_ (by simp)) | (with_reducible apply pw_below_drewN) | (with_reducible apply below_alloc))); rintro e w' ⟨rfl, ⟨nd, rfl⟩⟩) | ((go_at_call 37); (with_reducible refine (fix_Gain.calls _ _ r _ hg).mono ?_); rintro e w' ⟨rfl, ⟨nd, rfl⟩⟩))
    refine bodyPost_ret (v := .int .u64 r) (by simp [results, Try.results21, go_sem]) rfl ⟨rfl, ?_⟩
    repeat (first | (with_reducible exact Below.refl _ _) | (with_reducible refine below_set ?_ (by simp)) | (with_reducible apply pw_below_drewN) | (with_reducible apply below_alloc))
  · subst hK
    have d0 : (b == 0) = false := by simp [h0]
    have d1 : (a0_0 == 0) = false := by simp [h1]
    have d2 : (a0_0 == 1) = true := by simp [h1]
    go_enter Try.func21, Try.ntmps21
    go_wp2_with (first | ((go_at_call 23); (with_reducible refine (filt_Best.calls _ _ l0_1 b _ (Kd.C_below hr0_1 ?kb) hc0_1 hb).mono ?_); (case kb => repeat (first | (with_reducible exact Below.refl _ _) | (with_reducible refine below_set ?_ (by simp)) | (with_reducible apply pw_below_drewN) | (with_reducible apply below_alloc))); rintro e w' ⟨rfl, ⟨nd, rfl⟩⟩) | ((go_at_call 37); (with_reducible refine (fix_Gain.calls _ _ r _ hg).mono ?_); rintro e w' ⟨rfl, ⟨nd, rfl⟩⟩))
    refine bodyPost_ret (v := .int .u64 r) (by simp [results, Try.results21, go_sem]) rfl ⟨rfl, ?_⟩
    repeat (first | (with_reducible exact Below.refl _ _) | (with_reducible refine below_set ?_ (by simp)) | (with_reducible apply pw_below_drewN) | (with_reducible apply below_alloc))
  · subst hK
    have d0 : (b == 0) = false := by simp [h0]
    have d1 : (a0_0 == 0) = false := by simp [h1]
    have d2 : (a0_0 == 1) = false := by simp [h2]
    have d3 : (a0_0 == 2) = false := by simp [h3]
    go_enter Try.func21, Try.ntmps21
    go_wp2_with (first | ((go_at_call 23); (with_reducible refine (filt_Best.calls _ _ l0_1 b _ (Kd.C_below hr0_1 ?kb) hc0_1 hb).mono ?_); (case kb => repeat (first | (with_reducible exact Below.refl _ _) | (with_reducible refine below_set ?_ (by simp)) | (with_reducible apply pw_below_drewN) | (with_reducible apply below_alloc))); rintro e w' ⟨rfl, ⟨nd, rfl⟩⟩) | ((go_at_call 37); (with_reducible refine (fix_Gain.calls _ _ r _ hg).mono ?_); rintro e w' ⟨rfl, ⟨nd, rfl⟩⟩))
    refine bodyPost_ret (v := .int .u64 r) (by simp [results, Try.results21, go_sem]) rfl ⟨rfl, ?_⟩
    repeat (first | (with_reducible exact Below.refl _ _) | (with_reducible refine below_set ?_ (by simp)) | (with_reducible apply pw_below_drewN) | (with_reducible apply below_alloc))
set_option maxHeartbeats 8000000 in
theorem probe_Rate.cyc (a0_0 : Int) (A0_1 : Option Addr) (c0_1 : Nat) (l0_1 : List (S52)) (a0_2 : Int) (a0_3 : Int) (a0_4 : Int) (a0_5 : Int) (a0_6 : Int) (a0_7 : Int) (a0_8 : Int) (a0_9 : Int) (b K : Int) (r : Int) (w : World) (hr0_1 : Kd.C k52 w A0_1 l0_1.length l0_1) (hc0_1 : l0_1.length ≤ c0_1) (hb : filt_Best.f l0_1 = some b) (h0 : b ≠ 0) (h1 : a0_0 = 2) (hp : 0 ≤ a0_7) (hg : fix_Gain.f b K = some r)
    (h : a0_7 % 8 = 0 ∧ K = 320 ∨ a0_7 % 8 = 1 ∧ K = 192 ∨ a0_7 % 8 = 2 ∧ K = 256 ∨ a0_7 % 8 = 3 ∧ K = 256 ∨ a0_7 % 8 = 4 ∧ K = 256 ∨ a0_7 % 8 = 5 ∧ K = 256 ∨ a0_7 % 8 = 6 ∧ K = 256 ∨ a0_7 % 8 = 7 ∧ K = 256) :
    Calls Try.prog 21 #[.agg #[.int .i64 a0_0, .slice A0_1 l0_1.length c0_1, .int .u64 a0_2, .int .u64 a0_3, .int .u64 a0_4, .int .u64 a0_5, .int .u64 a0_6, .int .u64 a0_7, .int .u64 a0_8, .int .u64 a0_9]] w fun e w' => e = .returned (.int .u64 r) ∧ Below w.heap.size w w' := by
  have hu := Try.underlying26
  have d0 : (b == 0) = false := by simp [h0]
  have d1 : (a0_0 == 0) = false := by simp [h1]
  have d2 : (a0_0 == 1) = false := by simp [h1]
  have d3 : (a0_0 == 2) = true := by simp [h1]
  rcases h with ⟨h, hK⟩ | ⟨h, hK⟩ | ⟨h, hK⟩ | ⟨h, hK⟩ | ⟨h, hK⟩ | ⟨h, hK⟩ | ⟨h, hK⟩ | ⟨h, hK⟩ <;> (
    have e8 := (Int.tmod_eq_emod_of_nonneg (b := 8) hp).trans h
    subst hK
    clear hp h
    go_enter Try.func21, Try.ntmps21
    go_wp2_with (first | ((go_at_call 23); (with_reducible refine (filt_Best.calls _ _ l0_1 b _ (Kd.C_below hr0_1 ?kb) hc0_1 hb).mono ?_); (case kb => repeat (first | (with_reducible exact Below.refl _ _) | (with_reducible refine below_set ?_ (by simp)) | (with_reducible apply pw_below_drewN) | (with_reducible apply below_alloc))); rintro e w' ⟨rfl, ⟨nd, rfl⟩⟩) | ((go_at_call 37); (with_reducible refine (fix_Gain.calls _ _ r _ hg).mono ?_); rintro e w' ⟨rfl, ⟨nd, rfl⟩⟩))
    refine bodyPost_ret (v := .int .u64 r) (by simp [results, Try.results21, go_sem]) rfl ⟨rfl, ?_⟩
    repeat (first | (with_reducible exact Below.refl _ _) | (with_reducible refine below_set ?_ (by simp)) | (with_reducible apply pw_below_drewN) | (with_reducible apply below_alloc)))
theorem probe_Rate.calls (a0_0 : Int) (A0_1 : Option Addr) (c0_1 : Nat) (l0_1 : List (S52)) (a0_2 : Int) (a0_3 : Int) (a0_4 : Int) (a0_5 : Int) (a0_6 : Int) (a0_7 : Int) (a0_8 : Int) (a0_9 : Int) (r : Int) (w : World) (hr0_1 : Kd.C k52 w A0_1 l0_1.length l0_1) (hc0_1 : l0_1.length ≤ c0_1) (h : probe_Rate.f a0_0 l0_1 a0_2 a0_3 a0_4 a0_5 a0_6 a0_7 a0_8 a0_9 = some r) :
    Calls Try.prog 21 #[.agg #[.int .i64 a0_0, .slice A0_1 l0_1.length c0_1, .int .u64 a0_2, .int .u64 a0_3, .int .u64 a0_4, .int .u64 a0_5, .int .u64 a0_6, .int .u64 a0_7, .int .u64 a0_8, .int .u64 a0_9]] w fun e w' => e = .returned (.int .u64 r) ∧ Below w.heap.size w w' := by
  unfold probe_Rate.f at h
  obtain ⟨b, hb, h⟩ := Option.bind_eq_some_iff.mp h
  by_cases h0 : b = 0
  · rw [if_pos h0] at h
    exact probe_Rate.way a0_0 A0_1 c0_1 l0_1 a0_2 a0_3 a0_4 a0_5 a0_6 a0_7 a0_8 a0_9 b 0 r w hr0_1 hc0_1 hb (.inl ⟨h0, h⟩)
  · rw [if_neg h0] at h
    by_cases h1 : a0_0 = 0
    · rw [if_pos h1] at h
      exact probe_Rate.way a0_0 A0_1 c0_1 l0_1 a0_2 a0_3 a0_4 a0_5 a0_6 a0_7 a0_8 a0_9 b _ r w hr0_1 hc0_1 hb (.inr ⟨h, h0, .inl ⟨h1, rfl⟩⟩)
    · rw [if_neg h1] at h
      by_cases h2 : a0_0 = 1
      · rw [if_pos h2] at h
        exact probe_Rate.way a0_0 A0_1 c0_1 l0_1 a0_2 a0_3 a0_4 a0_5 a0_6 a0_7 a0_8 a0_9 b _ r w hr0_1 hc0_1 hb (.inr ⟨h, h0, .inr (.inl ⟨h2, rfl⟩)⟩)
      · rw [if_neg h2] at h
        by_cases h3 : a0_0 = 2
        · rw [if_pos h3] at h
          by_cases hp : 0 ≤ a0_7
          · rw [if_pos hp] at h
            by_cases h4 : a0_7 % 8 = 0
            · rw [if_pos h4] at h
              exact probe_Rate.cyc a0_0 A0_1 c0_1 l0_1 a0_2 a0_3 a0_4 a0_5 a0_6 a0_7 a0_8 a0_9 b _ r w hr0_1 hc0_1 hb h0 h3 hp h (by omega)
            · rw [if_neg h4] at h
              by_cases h5 : a0_7 % 8 = 1
              · rw [if_pos h5] at h
                exact probe_Rate.cyc a0_0 A0_1 c0_1 l0_1 a0_2 a0_3 a0_4 a0_5 a0_6 a0_7 a0_8 a0_9 b _ r w hr0_1 hc0_1 hb h0 h3 hp h (by omega)
              · rw [if_neg h5] at h
                exact probe_Rate.cyc a0_0 A0_1 c0_1 l0_1 a0_2 a0_3 a0_4 a0_5 a0_6 a0_7 a0_8 a0_9 b _ r w hr0_1 hc0_1 hb h0 h3 hp h (by omega)
          · rw [if_neg hp] at h
            cases h
        · rw [if_neg h3] at h
          exact probe_Rate.way a0_0 A0_1 c0_1 l0_1 a0_2 a0_3 a0_4 a0_5 a0_6 a0_7 a0_8 a0_9 b _ r w hr0_1 hc0_1 hb (.inr ⟨h, h0, .inr (.inr ⟨h1, h2, h3, rfl⟩)⟩)
attribute [local go_sem] max2_int min2_int max_two min_two max_three min_three max_four min_four   -- for this text's walks alone
set_option linter.unusedVariables false
set_option linter.unusedSimpArgs false
attribute [local go_sem high] eqA52
def wigwagref02_Same.l0 : Nat → List (S52) → List (S52) → Int → Option (Bool)
  | 0, _, _, _ => none
  | k + 1, x0, x1, x5 => if x5 < (x0.length : Int) then (if 0 ≤ x5 then (if x5 < (x1.length : Int) then (if (!(((rd_T52 x0 x5).f0) == ((rd_T52 x1 x5).f0)) || (!(((rd_T52 x0 x5).f1) == ((rd_T52 x1 x5).f1)))) = true then (some false) else (wigwagref02_Same.l0 k x0 x1 (wrap64 (x5 + 1)))) else (none)) else (none)) else (some true)
def wigwagref02_Same.f (k : Nat) (l0 : List (S52)) (l1 : List (S52)) : Option (Bool) := if (l0.length : Int) = (l1.length : Int) then (wigwagref02_Same.l0 k l0 l1 0) else (some false)
set_option maxHeartbeats 8000000 in
set_option maxRecDepth 100000 in
theorem wigwagref02_Same.calls (k : Nat) (A0 : Option Addr) (c0 : Nat) (l0 : List (S52)) (A1 : Option Addr) (c1 : Nat) (l1 : List (S52)) (r : Bool) (w : World) (hr0 : Kd.C k52 w A0 l0.length l0) (hc0 : l0.length ≤ c0) (hr1 : Kd.C k52 w A1 l1.length l1) (hc1 : l1.length ≤ c1) (h : wigwagref02_Same.f k l0 l1 = some r) :
    Calls Try.prog 24 #[.slice A0 l0.length c0, .slice A1 l1.length c1] w fun e w' => e = .returned (.bool r) ∧ Drawn0 w w' := by
  have hu52 := Try.underlying52
  have HR0 := Aside0.mk hr0
  have HC0 := Aside0.mk hc0
  clear hr0 hc0
  have HR1 := Aside0.mk hr1
  have HC1 := Aside0.mk hc1
  clear hr1 hc1
  have H : (if (l0.length : Int) = (l1.length : Int) then (wigwagref02_Same.l0 k l0 l1 0) else (some false)) = some r := h
  clear h
  by_cases c3 : (l0.length : Int) = (l1.length : Int)
  · rw [if_pos c3] at H
    have c3b0 : ((l0.length : Int) == (l1.length : Int)) = true := beq_iff_eq.mpr c3
    have c3b1 : ((l0.length : Int) != (l1.length : Int)) = false := bne_eq_false_iff_eq.mpr c3
    have c3b2 : (l0.length == l1.length) = true := by first | simpa using c3 | (simp at c3 ⊢; omega)
    clear c3
    have H' := Aside0.mk H
    clear H
    go_enter Try.func24, Try.ntmps24
    go_wp2
    repeat (go_quiet (fail); try go_wp2)
    go_loopg [5] k (fun kq v5 w' => ∃ (x5_1 : Int), v5 = .int .i64 x5_1 ∧ Aside0 (wigwagref02_Same.l0 kq l0 l1 x5_1 = some r) ∧ Aside0 (kq ≤ k) ∧ Drawn0 w w')
    case atStart => exact ⟨(0), (by first | rfl | (simp; done) | (simp [*]; done)), H', ⟨Nat.le_refl _⟩, by repeat (first | exact Drawn0.refl _ | apply Drawn0.step)⟩
    case round =>
      clear H'
      try clear c1
      try clear c2
      try clear p2
      try clear c3
      try clear c3b0
      try clear c3b1
      try clear c3b2
      obtain ⟨x5_1, rfl, HA, HK1, ⟨m1, rfl⟩⟩ := hrel
      cases gk with
      | zero => exact absurd HA.out (by simp [wigwagref02_Same.l0])
      | succ k1 =>
        have H := HA.out
        clear HA
        simp only [wigwagref02_Same.l0] at H
        by_cases c4 : x5_1 < (l0.length : Int)
        · rw [if_pos c4] at H
          have c4b0 : decide (x5_1 < (l0.length : Int)) = true := decide_eq_true c4
          clear c4
          by_cases c5 : 0 ≤ x5_1
          · rw [if_pos c5] at H
            have c5b0 : decide (0 ≤ x5_1) = true := decide_eq_true c5
            clear c5
            by_cases c6 : x5_1 < (l1.length : Int)
            · rw [if_pos c6] at H
              have c6b0 : decide (x5_1 < (l1.length : Int)) = true := decide_eq_true c6
              clear c6
              by_cases c7 : (!(((rd_T52 l0 x5_1).f0) == ((rd_T52 l1 x5_1).f0)) || (!(((rd_T52 l0 x5_1).f1) == ((rd_T52 l1 x5_1).f1)))) = true
              · rw [if_pos c7] at H
                have c7b0 : (!(((rd_T52 l0 x5_1).f0) == ((rd_T52 l1 x5_1).f0)) || (!(((rd_T52 l0 x5_1).f1) == ((rd_T52 l1 x5_1).f1)))) = true := c7
                clear c7
                obtain rfl := Option.some.inj H
                have p209 : 0 ≤ (x5_1 : Int) := of_decide_eq_true (by first | (with_reducible assumption) | assumption)
                have q209 : x5_1 < (l0.length : Int) := of_decide_eq_true (by first | (with_reducible assumption) | assumption)
                obtain ⟨ad209, e209, hx209_0, hx209_1⟩ := at_T52 HR0.out x5_1 p209 q209
                cases e209
                replace p209 := eq_true p209
                replace q209 := eq_true q209
                have p210 : 0 ≤ (x5_1 : Int) := of_decide_eq_true (by first | (with_reducible assumption) | assumption)
                have q210 : x5_1 < (l1.length : Int) := of_decide_eq_true (by first | (with_reducible assumption) | assumption)
                obtain ⟨ad210, e210, hx210_0, hx210_1⟩ := at_T52 HR1.out x5_1 p210 q210
                cases e210
                replace p210 := eq_true p210
                replace q210 := eq_true q210
                go_wp2
                repeat (go_quiet (fail); try go_wp2)
                go_ret
                exact ⟨by first | rfl | (simp; done) | (simp [*]; done), by repeat (first | exact Drawn0.refl _ | apply Drawn0.step)⟩
              · rw [if_neg c7] at H
                have c7b0 : (!(((rd_T52 l0 x5_1).f0) == ((rd_T52 l1 x5_1).f0)) || (!(((rd_T52 l0 x5_1).f1) == ((rd_T52 l1 x5_1).f1)))) = false := by simpa using c7
                clear c7
                have H' := Aside0.mk H
                clear H
                have p209 : 0 ≤ (x5_1 : Int) := of_decide_eq_true (by first | (with_reducible assumption) | assumption)
                have q209 : x5_1 < (l0.length : Int) := of_decide_eq_true (by first | (with_reducible assumption) | assumption)
                obtain ⟨ad209, e209, hx209_0, hx209_1⟩ := at_T52 HR0.out x5_1 p209 q209
                cases e209
                replace p209 := eq_true p209
                replace q209 := eq_true q209
                have p210 : 0 ≤ (x5_1 : Int) := of_decide_eq_true (by first | (with_reducible assumption) | assumption)
                have q210 : x5_1 < (l1.length : Int) := of_decide_eq_true (by first | (with_reducible assumption) | assumption)
                obtain ⟨ad210, e210, hx210_0, hx210_1⟩ := at_T52 HR1.out x5_1 p210 q210
                cases e210
                replace p210 := eq_true p210
                replace q210 := eq_true q210
                go_wp2
                repeat (go_quiet (fail); try go_wp2)
                go_roundg k1
                case measure => have := HK1.out; omega
                case rel => exact ⟨(wrap64 (x5_1 + 1)), (by first | rfl | (simp; done) | (simp [*]; done)), H', ⟨by have := HK1.out; omega⟩, by repeat (first | exact Drawn0.refl _ | apply Drawn0.step)⟩
            · rw [if_neg c6] at H
              exact absurd H (by simp)
          · rw [if_neg c5] at H
            exact absurd H (by simp)
        · rw [if_neg c4] at H
          have c4b0 : decide (x5_1 < (l0.length : Int)) = false := decide_eq_false c4
          clear c4
          obtain rfl := Option.some.inj H
          go_wp2
          repeat (go_quiet (fail); try go_wp2)
          go_ret
          exact ⟨by first | rfl | (simp; done) | (simp [*]; done), by repeat (first | exact Drawn0.refl _ | apply Drawn0.step)⟩
  · rw [if_neg c3] at H
    have c3b0 : ((l0.length : Int) == (l1.length : Int)) = false := beq_eq_false_iff_ne.mpr c3
    have c3b1 : ((l0.length : Int) != (l1.length : Int)) = true := bne_iff_ne.mpr c3
    have c3b2 : (l0.length == l1.length) = false := by first | simpa using c3 | (simp at c3 ⊢; omega)
    obtain rfl := Option.some.inj H
    go_enter Try.func24, Try.ntmps24
    go_wp2
    repeat (go_quiet (fail); try go_wp2)
    go_ret
    exact ⟨by first | rfl | (simp; done) | (simp [*]; done), by repeat (first | exact Drawn0.refl _ | apply Drawn0.step)⟩
attribute [local go_sem] max2_int min2_int max_two min_two max_three min_three max_four min_four   -- for this text's walks alone
set_option linter.unusedVariables false
set_option linter.unusedSimpArgs false
def probe_Loss.f (a0_0 : Int) (l0_1 : List (S52)) (a0_2 : Int) (a0_3 : Int) (a0_4 : Int) (a0_5 : Int) (a0_6 : Int) (a0_7 : Int) (a0_8 : Int) (a0_9 : Int) (a1 : Int) : Option (Int × (List (S52)) × Int × Int × Int × Int × Int × Int × Int × Int) := (fix_MulDivT.f a1 7 10).bind fun t155 => ((reno_Held.f t155).bind fun t156 => (some (a0_0, l0_1, a0_2, a0_3, a0_4, a0_5, a0_6, a0_7, a0_8, mn a0_9 t156)))
def probe_Loss.T1 : Bool × List (List Nat × List Nat) := (true, [([], []), ([0], [0]), ([], []), ([2], [2]), ([3, 3], [3]), ([1, 4], [1, 4]), ([0, 1, 2, 3, 4, 5], []), ([6, 5, 4, 0, 1, 2, 3, 4, 5], [5, 6])])
def probe_Loss.B1 : List Nat := [0, 1, 0, 4, 12, 31, 63, 127]
theorem probe_Loss.tab1 : rtab .any (opsOf Try.f13 1) = probe_Loss.T1 := by kernel_rfl
theorem probe_Loss.bits1 : waitsOk probe_Loss.T1.2 probe_Loss.B1 = true := by kernel_rfl
set_option maxHeartbeats 8000000 in
set_option maxRecDepth 100000 in
theorem probe_Loss.calls (a0_0 : Int) (P0_1_ : Nat → Prop) (A0_1 : Option Addr) (c0_1 : Nat) (l0_1 : List (S52)) (a0_2 : Int) (a0_3 : Int) (a0_4 : Int) (a0_5 : Int) (a0_6 : Int) (a0_7 : Int) (a0_8 : Int) (a0_9 : Int) (a1 : Int) (r1 : Int) (r2 : List (S52)) (r3 : Int) (r4 : Int) (r5 : Int) (r6 : Int) (r7 : Int) (r8 : Int) (r9 : Int) (r10 : Int) (w : World) (hs0_1 : Kd.V k52 52 w w.heap.size (fun k_ => P0_1_ k_) (.slice A0_1 l0_1.length c0_1) l0_1) (h : probe_Loss.f a0_0 l0_1 a0_2 a0_3 a0_4 a0_5 a0_6 a0_7 a0_8 a0_9 a1 = some (r1, r2, r3, r4, r5, r6, r7, r8, r9, r10)) :
    Calls Try.prog 13 #[.agg #[.int .i64 a0_0, .slice A0_1 l0_1.length c0_1, .int .u64 a0_2, .int .u64 a0_3, .int .u64 a0_4, .int .u64 a0_5, .int .u64 a0_6, .int .u64 a0_7, .int .u64 a0_8, .int .u64 a0_9], .int .u64 a1] w fun e w' => ∃ v1_ : Value, e = .returned (.agg #[.int .i64 r1, v1_, .int .u64 r3, .int .u64 r4, .int .u64 r5, .int .u64 r6, .int .u64 r7, .int .u64 r8, .int .u64 r9, .int .u64 r10]) ∧ Kd.V k52 52 w' w.heap.size (fun k_ => (P0_1_ k_ ∨ w.heap.size ≤ k_)) v1_ r2 ∧ Below w.heap.size w w' := by
  have hu26 := Try.underlying26
  have HO0_1 := Aside0.mk (show Kd.V k52 52 w w.heap.size (fun k_ => (P0_1_ k_ ∨ w.heap.size ≤ k_)) (.slice A0_1 l0_1.length c0_1) l0_1 from Kd.V_mono hs0_1 (fun k_ hk => .inl hk))
  have HB := Aside0.mk (Below.refl w.heap.size w)
  have H : ((fix_MulDivT.f a1 7 10).bind fun t155 => ((reno_Held.f t155).bind fun t156 => (some (a0_0, l0_1, a0_2, a0_3, a0_4, a0_5, a0_6, a0_7, a0_8, mn a0_9 t156)))) = some (r1, r2, r3, r4, r5, r6, r7, r8, r9, r10) := h
  clear h
  replace H := Option.bind_eq_some_iff.mp H
  obtain ⟨t155, A30, H⟩ := H
  replace H : ((reno_Held.f t155).bind fun t156 => (some (a0_0, l0_1, a0_2, a0_3, a0_4, a0_5, a0_6, a0_7, a0_8, mn a0_9 t156))) = some (r1, r2, r3, r4, r5, r6, r7, r8, r9, r10) := H
  have A3 := Aside0.mk A30
  clear A30
  replace H := Option.bind_eq_some_iff.mp H
  obtain ⟨t156, A40, H⟩ := H
  replace H : (some (a0_0, l0_1, a0_2, a0_3, a0_4, a0_5, a0_6, a0_7, a0_8, mn a0_9 t156)) = some (r1, r2, r3, r4, r5, r6, r7, r8, r9, r10) := H
  have A4 := Aside0.mk A40
  clear A40
  obtain ⟨ji5, hji5⟩ : ∃ j_ : Int, (mn a0_9 t156) = j_ := ⟨_, rfl⟩
  replace H : (some (a0_0, l0_1, a0_2, a0_3, a0_4, a0_5, a0_6, a0_7, a0_8, ji5)) = some (r1, r2, r3, r4, r5, r6, r7, r8, r9, r10) := by first | (rw [hji5] at H; exact H) | (simp only [hji5] at H ⊢; exact H)
  (try rw [hji5] at A3)
  (try rw [hji5] at A4)
  have hji5_ : (if t156 < a0_9 then t156 else a0_9) = ji5 := hji5
  simp only [Option.some.injEq, Prod.mk.injEq] at H
  obtain ⟨rfl, rfl, rfl, rfl, rfl, rfl, rfl, rfl, rfl, rfl⟩ := H
  go_enter Try.func13, Try.ntmps13
  try go_wp2_with (first | ((with_reducible refine gate_dst (N := 2) rfl ?_); refine box_event ?hg (N := 2) ?hd (cs := #[.int .i64 a0_0, .slice A0_1 l0_1.length c0_1, .int .u64 a0_2, .int .u64 a0_3, .int .u64 a0_4, .int .u64 a0_5, .int .u64 a0_6, .int .u64 a0_7, .int .u64 a0_8, .int .u64 a0_9]) (t := 26) ?hr ?_; (case hd => rfl); (case hg => rfl); (case hr => first | (go_simp; done) | (go_simp; rfl)); intro gb153 hg w6 hbox hb; have n0_ := Aside0.mk (Kd.V_below (Kd.V_elderB (by (with_reducible repeat (first | apply Kd.V_alloc | apply Kd.V_drewN | apply Kd.V_drew)); exact HO0_1.out) gb153 (Nat.le_of_eq hg.symm)) hb); have n1_ := Aside0.mk (below_step (by repeat (first | (with_reducible first | exact HB.out | apply below_alloc | apply pw_below_drewN | apply below_drew1) | exact HB.out)) hb); have n2_ := Aside0.mk (hbox); have n3_ := Aside0.mk ((by rw [hg]; exact (below_size (by repeat (first | (with_reducible first | exact HB.out | apply below_alloc | apply pw_below_drewN | apply below_drew1) | exact HB.out))) : w.heap.size ≤ gb153)); have n4_ := Aside0.mk ((by rw [hg]; exact (below_size (by repeat (first | (with_reducible first | exact HB.out | apply below_alloc | apply pw_below_drewN | apply below_drew1) | exact HB.out))) : w.heap.size ≤ gb153)); clear HO0_1; clear HB; have HO0_1 := n0_; have HB := n1_; have BK153 := n2_; have GW153 := n3_; have GE153 := n4_; clear n0_ n1_ n2_ n3_ n4_; clear hb hbox hg) | ((with_reducible refine gate_dst (N := 4) rfl ?_); refine box_event ?hg (N := 4) ?hd (cs := #[.int .i64 0, .slice none 0 0, .int .u64 0, .int .u64 0, .int .u64 0, .int .u64 0, .int .u64 0, .int .u64 0, .int .u64 0, .int .u64 0]) (t := 26) ?hr ?_; (case hd => rfl); (case hg => rfl); (case hr => first | (go_simp; done) | (go_simp; rfl)); intro gb154 hg w7 hbox hb; have n0_ := Aside0.mk (Kd.V_below (Kd.V_elderB (by (with_reducible repeat (first | apply Kd.V_alloc | apply Kd.V_drewN | apply Kd.V_drew)); exact HO0_1.out) gb154 (Nat.le_of_eq hg.symm)) hb); have n1_ := Aside0.mk (blk_below (g := gb153) (o := .cells #[.int .i64 a0_0, .slice A0_1 l0_1.length c0_1, .int .u64 a0_2, .int .u64 a0_3, .int .u64 a0_4, .int .u64 a0_5, .int .u64 a0_6, .int .u64 a0_7, .int .u64 a0_8, .int .u64 a0_9] 26 (0, 0)) (by (with_reducible repeat (first | refine blk_drewN ?_ _ | refine blk_drew ?_ | refine blk_alloc ?_ _)); exact BK153.out) hb); have n2_ := Aside0.mk (below_step (by repeat (first | (with_reducible first | exact HB.out | apply below_alloc | apply pw_below_drewN | apply below_drew1 | refine below_set ?_ GE153.out) | exact HB.out)) hb); have n3_ := Aside0.mk (hbox); have n4_ := Aside0.mk ((by rw [hg]; exact (below_size (by repeat (first | (with_reducible first | exact HB.out | apply below_alloc | apply pw_below_drewN | apply below_drew1 | refine below_set ?_ GE153.out) | exact HB.out))) : w.heap.size ≤ gb154)); have n5_ := Aside0.mk ((by rw [hg]; exact (below_size (by repeat (first | (with_reducible first | exact HB.out | apply below_alloc | apply pw_below_drewN | apply below_drew1 | refine below_set ?_ GE153.out) | exact HB.out))) : w.heap.size ≤ gb154)); have n6_ := Aside0.mk ((by rw [hg]; exact Nat.ne_of_lt (blk_lt (g := gb153) (o := .cells #[.int .i64 a0_0, .slice A0_1 l0_1.length c0_1, .int .u64 a0_2, .int .u64 a0_3, .int .u64 a0_4, .int .u64 a0_5, .int .u64 a0_6, .int .u64 a0_7, .int .u64 a0_8, .int .u64 a0_9] 26 (0, 0)) (by (with_reducible repeat (first | refine blk_drewN ?_ _ | refine blk_drew ?_ | refine blk_alloc ?_ _)); exact BK153.out)) : gb153 ≠ gb154)); have n7_ := Aside0.mk ((by rw [hg]; exact Nat.ne_of_gt (blk_lt (g := gb153) (o := .cells #[.int .i64 a0_0, .slice A0_1 l0_1.length c0_1, .int .u64 a0_2, .int .u64 a0_3, .int .u64 a0_4, .int .u64 a0_5, .int .u64 a0_6, .int .u64 a0_7, .int .u64 a0_8, .int .u64 a0_9] 26 (0, 0)) (by (with_reducible repeat (first | refine blk_drewN ?_ _ | refine blk_drew ?_ | refine blk_alloc ?_ _)); exact BK153.out)) : gb154 ≠ gb153)); clear HO0_1; clear BK153; clear HB; have HO0_1 := n0_; have BK153 := n1_; have HB := n2_; have BK154 := n3_; have GW154 := n4_; have GE154 := n5_; have NB153_154 := n6_; have NB154_153 := n7_; clear n0_ n1_ n2_ n3_ n4_ n5_ n6_ n7_; clear hb hbox hg))
  have n0_ := Aside0.mk (Kd.V_drew HO0_1.out)
  have n1_ := Aside0.mk (blk_drew BK153.out)
  have n2_ := Aside0.mk (blk_drew BK154.out)
  have n3_ := Aside0.mk (below_drew1 HB.out)
  clear HO0_1
  clear BK153
  clear BK154
  clear HB
  have HO0_1 := n0_
  have BK153 := n1_
  have BK154 := n2_
  have HB := n3_
  clear n0_ n1_ n2_ n3_
  refine start_ (n := 8) (S := fun w' => w'.cell? ⟨gb153, 0, none⟩ = some (.int .i64 a0_0) ∧ w'.cell? ⟨gb153, 1, none⟩ = some (.slice A0_1 l0_1.length c0_1) ∧ w'.cell? ⟨gb153, 2, none⟩ = some (.int .u64 a0_2) ∧ w'.cell? ⟨gb153, 3, none⟩ = some (.int .u64 a0_3) ∧ w'.cell? ⟨gb153, 4, none⟩ = some (.int .u64 a0_4) ∧ w'.cell? ⟨gb153, 5, none⟩ = some (.int .u64 a0_5) ∧ w'.cell? ⟨gb153, 6, none⟩ = some (.int .u64 a0_6) ∧ w'.cell? ⟨gb153, 7, none⟩ = some (.int .u64 a0_7) ∧ w'.cell? ⟨gb153, 8, none⟩ = some (.int .u64 a0_8) ∧ w'.cell? ⟨gb153, 9, none⟩ = some (.int .u64 a0_9)) (ds := [7]) #[false, false, false, false, false, false, false, false] (by kernel_rfl) rfl rfl ⟨(blk_cell BK153.out 0).trans rfl, (blk_cell BK153.out 1).trans rfl, (blk_cell BK153.out 2).trans rfl, (blk_cell BK153.out 3).trans rfl, (blk_cell BK153.out 4).trans rfl, (blk_cell BK153.out 5).trans rfl, (blk_cell BK153.out 6).trans rfl, (blk_cell BK153.out 7).trans rfl, (blk_cell BK153.out 8).trans rfl, (blk_cell BK153.out 9).trans rfl⟩ (fun hHeld => ?_); refine with_tabW probe_Loss.tab1 probe_Loss.bits1 (fun HT_ HW_ => ?_)
  generalize w7.drew = w8 at HO0_1 BK153 BK154 HB hHeld ⊢
  refine pure_ (i := 0) (N := some 5) (v := ?_) (a' := ?_) #[true, false, false, false, false, false, false, false] rfl rfl (any_of HT_.out (by kernel_rfl)) (fun _ _ _ h => h) (Or.inl ⟨by rfl, ?_⟩) ?_ ?_
  rotate_left
  · intro w'
    go_simp
    with_reducible rfl
  rotate_left
  · simp only [Act.put, List.setIfInBounds_toArray, List.set_cons_zero, List.set_cons_succ, i64_w, i32_w]
    rfl
  refine pure_ (i := 2) (N := some 7) (v := ?_) (a' := ?_) #[true, false, true, false, false, false, false, false] rfl rfl (any_of HT_.out (by kernel_rfl)) (fun _ _ _ h => h) (Or.inl ⟨by rfl, ?_⟩) ?_ ?_
  rotate_left
  · intro w'
    go_simp
    with_reducible rfl
  rotate_left
  · simp only [Act.put, List.setIfInBounds_toArray, List.set_cons_zero, List.set_cons_succ, i64_w, i32_w]
    rfl
  refine take_ (i := 1) (N := some 6) (v := ?_) (a' := ?_) #[true, true, true, false, false, false, false, false] rfl rfl (take_ofW HT_.out HW_.out (by kernel_rfl)) (fun _ _ _ h => h) (Or.inl ⟨by rfl, ?_⟩) hHeld ?_ ?_
  rotate_left
  · rintro w' ⟨s0, s1, s2, s3, s4, s5, s6, s7, s8, s9⟩
    go_simp
    with_reducible rfl
  rotate_left
  · simp only [Act.put, List.setIfInBounds_toArray, List.set_cons_zero, List.set_cons_succ, i64_w, i32_w]
    rfl
  refine one_ (i := 3) (N := some 8) #[true, true, true, true, false, false, false, false] rfl rfl (one_of HT_.out (by kernel_rfl)) (by decide) (fun K hK => ?_)
  refine goes_ Try.func35 (by kernel_rfl) rfl #[.int .u64 a1, .int .u64 7, .int .u64 10] (by rfl) rfl rfl (by (try simp only [List.map_toArray, List.map_cons, List.map_nil]); first | done | rfl | (simp only [List.length_drop, List.length_take]; rfl)) ?_
  with_reducible refine (fix_MulDivT.calls a1 7 10 t155 _ A3.out).mono ?_
  rintro e w' ⟨rfl, ⟨nd, rfl⟩⟩
  refine ⟨_, rfl, ?_⟩
  refine hK.out _ _ ⟨(blk_cell BK153.out 0).trans rfl, (blk_cell BK153.out 1).trans rfl, (blk_cell BK153.out 2).trans rfl, (blk_cell BK153.out 3).trans rfl, (blk_cell BK153.out 4).trans rfl, (blk_cell BK153.out 5).trans rfl, (blk_cell BK153.out 6).trans rfl, (blk_cell BK153.out 7).trans rfl, (blk_cell BK153.out 8).trans rfl, (blk_cell BK153.out 9).trans rfl⟩ (fun hHeld => ?_)
  clear hK K
  refine norm_ (a' := ?_) ?_ ?_
  rotate_left
  · show Act.put _ (some 8) _ = _
    simp only [Act.put, List.setIfInBounds_toArray, List.set_cons_zero, List.set_cons_succ, i64_w, i32_w]
    rfl
  refine one_ (i := 4) (N := some 9) #[true, true, true, true, true, false, false, false] rfl rfl (one_of HT_.out (by kernel_rfl)) (by decide) (fun K hK => ?_)
  refine goes_ Try.func27 (by kernel_rfl) rfl #[.int .u64 t155] (by rfl) rfl rfl (by (try simp only [List.map_toArray, List.map_cons, List.map_nil]); first | done | rfl | (simp only [List.length_drop, List.length_take]; rfl)) ?_
  with_reducible refine (reno_Held.calls t155 t156 _ A4.out).mono ?_
  rintro e w' ⟨rfl, ⟨nd, rfl⟩⟩
  refine ⟨_, rfl, ?_⟩
  refine hK.out _ _ ⟨(blk_cell BK153.out 0).trans rfl, (blk_cell BK153.out 1).trans rfl, (blk_cell BK153.out 2).trans rfl, (blk_cell BK153.out 3).trans rfl, (blk_cell BK153.out 4).trans rfl, (blk_cell BK153.out 5).trans rfl, (blk_cell BK153.out 6).trans rfl, (blk_cell BK153.out 7).trans rfl, (blk_cell BK153.out 8).trans rfl, (blk_cell BK153.out 9).trans rfl⟩ (fun hHeld => ?_)
  clear hK K
  refine norm_ (a' := ?_) ?_ ?_
  rotate_left
  · show Act.put _ (some 9) _ = _
    simp only [Act.put, List.setIfInBounds_toArray, List.set_cons_zero, List.set_cons_succ, i64_w, i32_w]
    rfl
  refine pure_ (i := 5) (N := some 10) (v := ?_) (a' := ?_) #[true, true, true, true, true, true, false, false] rfl rfl (any_of HT_.out (by kernel_rfl)) (fun _ _ _ h => h) (Or.inl ⟨by rfl, ?_⟩) ?_ ?_
  rotate_left
  · intro w'
    go_simp
    with_reducible rfl
  rotate_left
  · simp only [Act.put, List.setIfInBounds_toArray, List.set_cons_zero, List.set_cons_succ, i64_w, i32_w]
    rfl
  refine pure_ (i := 6) (N := some 11) (v := ?_) (a' := ?_) #[true, true, true, true, true, true, true, false] rfl rfl (any_of HT_.out (by kernel_rfl)) (fun _ _ _ h => h) (Or.inl ⟨by rfl, ?_⟩) ?_ ?_
  rotate_left
  · intro w'
    go_simp
    with_reducible rfl
  rotate_left
  · simp only [Act.put, List.setIfInBounds_toArray, List.set_cons_zero, List.set_cons_succ, i64_w, i32_w]
    rfl
  refine last_ (i := 7) (N := none) #[true, true, true, true, true, true, true, true] rfl rfl (one_of HT_.out (by kernel_rfl)) (by decide) (fun K hK => ?_)
  have hs9 : w8.cell? ⟨gb153, 9, none⟩ = some (.int .u64 a0_9) := (blk_cell BK153.out 9).trans rfl
  have hfs9 := blk_frozen BK153.out 9
  have hns9_1 := NB154_153.out
  have hms9_1 := NB153_154.out
  refine skip_ (w1 := ?_) (by rfl) rfl ?_ ?_
  rotate_left
  · go_simp
    rfl
  refine hK.out _ _ ?_
  clear hK K
  refine done_ (done_of HT_.out (by kernel_rfl)) ?_
  have hnb10 := NB153_154.out
  have hnc10 := NB154_153.out
  have hcz11_0 : w8.cell? ⟨gb153, 0, none⟩ = some (.int .i64 a0_0) := (blk_cell BK153.out 0).trans rfl
  have hcz11_1 : w8.cell? ⟨gb153, 1, none⟩ = some (.slice A0_1 l0_1.length c0_1) := (blk_cell BK153.out 1).trans rfl
  have hcz11_2 : w8.cell? ⟨gb153, 2, none⟩ = some (.int .u64 a0_2) := (blk_cell BK153.out 2).trans rfl
  have hcz11_3 : w8.cell? ⟨gb153, 3, none⟩ = some (.int .u64 a0_3) := (blk_cell BK153.out 3).trans rfl
  have hcz11_4 : w8.cell? ⟨gb153, 4, none⟩ = some (.int .u64 a0_4) := (blk_cell BK153.out 4).trans rfl
  have hcz11_5 : w8.cell? ⟨gb153, 5, none⟩ = some (.int .u64 a0_5) := (blk_cell BK153.out 5).trans rfl
  have hcz11_6 : w8.cell? ⟨gb153, 6, none⟩ = some (.int .u64 a0_6) := (blk_cell BK153.out 6).trans rfl
  have hcz11_7 : w8.cell? ⟨gb153, 7, none⟩ = some (.int .u64 a0_7) := (blk_cell BK153.out 7).trans rfl
  have hcz11_8 : w8.cell? ⟨gb153, 8, none⟩ = some (.int .u64 a0_8) := (blk_cell BK153.out 8).trans rfl
  have hcz11_9 : w8.cell? ⟨gb153, 9, none⟩ = some (.int .u64 a0_9) := (blk_cell BK153.out 9).trans rfl
  have hfz11_0 := blk_frozen BK153.out 0
  have hfz11_1 := blk_frozen BK153.out 1
  have hfz11_2 := blk_frozen BK153.out 2
  have hfz11_3 := blk_frozen BK153.out 3
  have hfz11_4 := blk_frozen BK153.out 4
  have hfz11_5 := blk_frozen BK153.out 5
  have hfz11_6 := blk_frozen BK153.out 6
  have hfz11_7 := blk_frozen BK153.out 7
  have hfz11_8 := blk_frozen BK153.out 8
  have hfz11_9 := blk_frozen BK153.out 9
  have hcz12_0 : w8.cell? ⟨gb154, 0, none⟩ = some (.int .i64 0) := (blk_cell BK154.out 0).trans rfl
  have hcz12_1 : w8.cell? ⟨gb154, 1, none⟩ = some (.slice none 0 0) := (blk_cell BK154.out 1).trans rfl
  have hcz12_2 : w8.cell? ⟨gb154, 2, none⟩ = some (.int .u64 0) := (blk_cell BK154.out 2).trans rfl
  have hcz12_3 : w8.cell? ⟨gb154, 3, none⟩ = some (.int .u64 0) := (blk_cell BK154.out 3).trans rfl
  have hcz12_4 : w8.cell? ⟨gb154, 4, none⟩ = some (.int .u64 0) := (blk_cell BK154.out 4).trans rfl
  have hcz12_5 : w8.cell? ⟨gb154, 5, none⟩ = some (.int .u64 0) := (blk_cell BK154.out 5).trans rfl
  have hcz12_6 : w8.cell? ⟨gb154, 6, none⟩ = some (.int .u64 0) := (blk_cell BK154.out 6).trans rfl
  have hcz12_7 : w8.cell? ⟨gb154, 7, none⟩ = some (.int .u64 0) := (blk_cell BK154.out 7).trans rfl
  have hcz12_8 : w8.cell? ⟨gb154, 8, none⟩ = some (.int .u64 0) := (blk_cell BK154.out 8).trans rfl
  have hcz12_9 : w8.cell? ⟨gb154, 9, none⟩ = some (.int .u64 0) := (blk_cell BK154.out 9).trans rfl
  have hfz12_0 := blk_frozen BK154.out 0
  have hfz12_1 := blk_frozen BK154.out 1
  have hfz12_2 := blk_frozen BK154.out 2
  have hfz12_3 := blk_frozen BK154.out 3
  have hfz12_4 := blk_frozen BK154.out 4
  have hfz12_5 := blk_frozen BK154.out 5
  have hfz12_6 := blk_frozen BK154.out 6
  have hfz12_7 := blk_frozen BK154.out 7
  have hfz12_8 := blk_frozen BK154.out 8
  have hfz12_9 := blk_frozen BK154.out 9
  try go_wp2
  refine bodyPost_ret (results_cell_row rfl _ _ gb154 26 #[.int .i64 a0_0, .slice A0_1 l0_1.length c0_1, .int .u64 a0_2, .int .u64 a0_3, .int .u64 a0_4, .int .u64 a0_5, .int .u64 a0_6, .int .u64 a0_7, .int .u64 a0_8, .int .u64 ji5] (0, 0) _ rfl (by (with_reducible repeat (first | refine blk_drewN ?_ _ | refine blk_drew ?_ | refine blk_alloc ?_ _)); refine blk_put (cs := #[.int .i64 a0_0, .slice A0_1 l0_1.length c0_1, .int .u64 a0_2, .int .u64 a0_3, .int .u64 a0_4, .int .u64 a0_5, .int .u64 a0_6, .int .u64 a0_7, .int .u64 a0_8, .int .u64 0]) ?_ 9 _ rfl; (with_reducible repeat (first | refine blk_drewN ?_ _ | refine blk_drew ?_ | refine blk_alloc ?_ _)); refine blk_put (cs := #[.int .i64 a0_0, .slice A0_1 l0_1.length c0_1, .int .u64 a0_2, .int .u64 a0_3, .int .u64 a0_4, .int .u64 a0_5, .int .u64 a0_6, .int .u64 a0_7, .int .u64 0, .int .u64 0]) ?_ 8 _ rfl; (with_reducible repeat (first | refine blk_drewN ?_ _ | refine blk_drew ?_ | refine blk_alloc ?_ _)); refine blk_put (cs := #[.int .i64 a0_0, .slice A0_1 l0_1.length c0_1, .int .u64 a0_2, .int .u64 a0_3, .int .u64 a0_4, .int .u64 a0_5, .int .u64 a0_6, .int .u64 0, .int .u64 0, .int .u64 0]) ?_ 7 _ rfl; (with_reducible repeat (first | refine blk_drewN ?_ _ | refine blk_drew ?_ | refine blk_alloc ?_ _)); refine blk_put (cs := #[.int .i64 a0_0, .slice A0_1 l0_1.length c0_1, .int .u64 a0_2, .int .u64 a0_3, .int .u64 a0_4, .int .u64 a0_5, .int .u64 0, .int .u64 0, .int .u64 0, .int .u64 0]) ?_ 6 _ rfl; (with_reducible repeat (first | refine blk_drewN ?_ _ | refine blk_drew ?_ | refine blk_alloc ?_ _)); refine blk_put (cs := #[.int .i64 a0_0, .slice A0_1 l0_1.length c0_1, .int .u64 a0_2, .int .u64 a0_3, .int .u64 a0_4, .int .u64 0, .int .u64 0, .int .u64 0, .int .u64 0, .int .u64 0]) ?_ 5 _ rfl; (with_reducible repeat (first | refine blk_drewN ?_ _ | refine blk_drew ?_ | refine blk_alloc ?_ _)); refine blk_put (cs := #[.int .i64 a0_0, .slice A0_1 l0_1.length c0_1, .int .u64 a0_2, .int .u64 a0_3, .int .u64 0, .int .u64 0, .int .u64 0, .int .u64 0, .int .u64 0, .int .u64 0]) ?_ 4 _ rfl; (with_reducible repeat (first | refine blk_drewN ?_ _ | refine blk_drew ?_ | refine blk_alloc ?_ _)); refine blk_put (cs := #[.int .i64 a0_0, .slice A0_1 l0_1.length c0_1, .int .u64 a0_2, .int .u64 0, .int .u64 0, .int .u64 0, .int .u64 0, .int .u64 0, .int .u64 0, .int .u64 0]) ?_ 3 _ rfl; (with_reducible repeat (first | refine blk_drewN ?_ _ | refine blk_drew ?_ | refine blk_alloc ?_ _)); refine blk_put (cs := #[.int .i64 a0_0, .slice A0_1 l0_1.length c0_1, .int .u64 0, .int .u64 0, .int .u64 0, .int .u64 0, .int .u64 0, .int .u64 0, .int .u64 0, .int .u64 0]) ?_ 2 _ rfl; (with_reducible repeat (first | refine blk_drewN ?_ _ | refine blk_drew ?_ | refine blk_alloc ?_ _)); refine blk_put (cs := #[.int .i64 a0_0, .slice none 0 0, .int .u64 0, .int .u64 0, .int .u64 0, .int .u64 0, .int .u64 0, .int .u64 0, .int .u64 0, .int .u64 0]) ?_ 1 _ rfl; (with_reducible repeat (first | refine blk_drewN ?_ _ | refine blk_drew ?_ | refine blk_alloc ?_ _)); refine blk_put (cs := #[.int .i64 0, .slice none 0 0, .int .u64 0, .int .u64 0, .int .u64 0, .int .u64 0, .int .u64 0, .int .u64 0, .int .u64 0, .int .u64 0]) ?_ 0 _ rfl; (with_reducible repeat (first | refine blk_drewN ?_ _ | refine blk_drew ?_ | refine blk_alloc ?_ _)); refine blk_far ?_ NB154_153.out _; (with_reducible repeat (first | refine blk_drewN ?_ _ | refine blk_drew ?_ | refine blk_alloc ?_ _)); exact BK154.out) Try.underlying26 rfl (by kernel_rfl)) rfl ?_
  exact ⟨_, by first | rfl | (simp [errW_none, errW_some] <;> rfl) | (simp only [← hji5]; first | rfl | (simp [errW_none, errW_some] <;> rfl)) | (simp [*, errW_none, errW_some] <;> rfl), by (with_reducible repeat (first | apply Kd.V_alloc | apply Kd.V_drewN | apply Kd.V_drew)); exact Kd.V_mono (Kd.V_far (p := ⟨gb154, 9, none⟩) (Kd.V_far (p := ⟨gb154, 8, none⟩) (Kd.V_far (p := ⟨gb154, 7, none⟩) (Kd.V_far (p := ⟨gb154, 6, none⟩) (Kd.V_far (p := ⟨gb154, 5, none⟩) (Kd.V_far (p := ⟨gb154, 4, none⟩) (Kd.V_far (p := ⟨gb154, 3, none⟩) (Kd.V_far (p := ⟨gb154, 2, none⟩) (Kd.V_far (p := ⟨gb154, 1, none⟩) (Kd.V_far (p := ⟨gb154, 0, none⟩) (Kd.V_far (p := ⟨gb153, 9, none⟩) (Kd.V_mono (Kd.V_mono HO0_1.out (fun k_ hk => (⟨hk, hk.1.2⟩ : _ ∧ k_ ≠ gb153))) (fun k_ hk => (⟨hk, hk.1.2⟩ : _ ∧ k_ ≠ gb154))) (fun _ hk => hk.1.2) (.int .u64 ji5)) (fun _ hk => hk.2) (.int .i64 a0_0)) (fun _ hk => hk.2) (.slice A0_1 l0_1.length c0_1)) (fun _ hk => hk.2) (.int .u64 a0_2)) (fun _ hk => hk.2) (.int .u64 a0_3)) (fun _ hk => hk.2) (.int .u64 a0_4)) (fun _ hk => hk.2) (.int .u64 a0_5)) (fun _ hk => hk.2) (.int .u64 a0_6)) (fun _ hk => hk.2) (.int .u64 a0_7)) (fun _ hk => hk.2) (.int .u64 a0_8)) (fun _ hk => hk.2) (.int .u64 ji5)) (fun _ hk => hk.1.1.1.1), by repeat (first | (with_reducible first | exact HB.out | apply below_alloc | apply pw_below_drewN | apply below_drew1 | refine below_set ?_ GE153.out | refine below_set ?_ GE154.out) | exact HB.out)⟩
attribute [local go_sem] max2_int min2_int max_two min_two max_three min_three max_four min_four   -- for this text's walks alone
set_option linter.unusedVariables false
set_option linter.unusedSimpArgs false
def probe_New.f (a0 : Int) : Option (Int × (List (S52)) × Int × Int × Int × Int × Int × Int × Int × Int) := some (0, ([] : List (S52)), 18446744073709551615, a0, 0, 0, 0, 0, a0, 16777216)
set_option maxHeartbeats 8000000 in
set_option maxRecDepth 100000 in
theorem probe_New.calls (a0 : Int) (r1 : Int) (r2 : List (S52)) (r3 : Int) (r4 : Int) (r5 : Int) (r6 : Int) (r7 : Int) (r8 : Int) (r9 : Int) (r10 : Int) (w : World) (h : probe_New.f a0 = some (r1, r2, r3, r4, r5, r6, r7, r8, r9, r10)) :
    Calls Try.prog 15 #[.int .u64 a0] w fun e w' => ∃ v1_ : Value, e = .returned (.agg #[.int .i64 r1, v1_, .int .u64 r3, .int .u64 r4, .int .u64 r5, .int .u64 r6, .int .u64 r7, .int .u64 r8, .int .u64 r9, .int .u64 r10]) ∧ Kd.R k52 52 w' w.heap.size (fun _ => True) v1_ r2 ∧ Below w.heap.size w w' := by
  have hu26 := Try.underlying26
  have HB := Aside0.mk (Below.refl w.heap.size w)
  have H : (some (0, ([] : List (S52)), 18446744073709551615, a0, 0, 0, 0, 0, a0, 16777216)) = some (r1, r2, r3, r4, r5, r6, r7, r8, r9, r10) := h
  clear h
  simp only [Option.some.injEq, Prod.mk.injEq] at H
  obtain ⟨rfl, rfl, rfl, rfl, rfl, rfl, rfl, rfl, rfl, rfl⟩ := H
  go_enter Try.func15, Try.ntmps15
  go_wp2_with (first | ((with_reducible refine gate_dst (N := 2) rfl ?_); refine box_event ?hg (N := 2) ?hd (cs := #[.int .i64 0, .slice none 0 0, .int .u64 0, .int .u64 0, .int .u64 0, .int .u64 0, .int .u64 0, .int .u64 0, .int .u64 0, .int .u64 0]) (t := 26) ?hr ?_; (case hd => rfl); (case hg => rfl); (case hr => first | (go_simp; done) | (go_simp; rfl)); intro gb157 hg w2 hbox hb; have n0_ := Aside0.mk (below_step (by repeat (first | (with_reducible first | exact HB.out | apply below_alloc | apply pw_below_drewN | apply below_drew1) | exact HB.out)) hb); have n1_ := Aside0.mk (hbox); have n2_ := Aside0.mk ((by rw [hg]; exact (below_size (by repeat (first | (with_reducible first | exact HB.out | apply below_alloc | apply pw_below_drewN | apply below_drew1) | exact HB.out))) : w.heap.size ≤ gb157)); have n3_ := Aside0.mk ((by rw [hg]; exact (below_size (by repeat (first | (with_reducible first | exact HB.out | apply below_alloc | apply pw_below_drewN | apply below_drew1) | exact HB.out))) : w.heap.size ≤ gb157)); clear HB; have HB := n0_; have BK157 := n1_; have GW157 := n2_; have GE157 := n3_; clear n0_ n1_ n2_ n3_; clear hb hbox hg; have hcz3_0 : w2.cell? ⟨gb157, 0, none⟩ = some (.int .i64 0) := (blk_cell BK157.out 0).trans rfl; have hcz3_1 : w2.cell? ⟨gb157, 1, none⟩ = some (.slice none 0 0) := (blk_cell BK157.out 1).trans rfl; have hcz3_2 : w2.cell? ⟨gb157, 2, none⟩ = some (.int .u64 0) := (blk_cell BK157.out 2).trans rfl; have hcz3_3 : w2.cell? ⟨gb157, 3, none⟩ = some (.int .u64 0) := (blk_cell BK157.out 3).trans rfl; have hcz3_4 : w2.cell? ⟨gb157, 4, none⟩ = some (.int .u64 0) := (blk_cell BK157.out 4).trans rfl; have hcz3_5 : w2.cell? ⟨gb157, 5, none⟩ = some (.int .u64 0) := (blk_cell BK157.out 5).trans rfl; have hcz3_6 : w2.cell? ⟨gb157, 6, none⟩ = some (.int .u64 0) := (blk_cell BK157.out 6).trans rfl; have hcz3_7 : w2.cell? ⟨gb157, 7, none⟩ = some (.int .u64 0) := (blk_cell BK157.out 7).trans rfl; have hcz3_8 : w2.cell? ⟨gb157, 8, none⟩ = some (.int .u64 0) := (blk_cell BK157.out 8).trans rfl; have hcz3_9 : w2.cell? ⟨gb157, 9, none⟩ = some (.int .u64 0) := (blk_cell BK157.out 9).trans rfl; have hfz3_0 := blk_frozen BK157.out 0; have hfz3_1 := blk_frozen BK157.out 1; have hfz3_2 := blk_frozen BK157.out 2; have hfz3_3 := blk_frozen BK157.out 3; have hfz3_4 := blk_frozen BK157.out 4; have hfz3_5 := blk_frozen BK157.out 5; have hfz3_6 := blk_frozen BK157.out 6; have hfz3_7 := blk_frozen BK157.out 7; have hfz3_8 := blk_frozen BK157.out 8; have hfz3_9 := blk_frozen BK157.out 9))
  refine bodyPost_ret (results_cell_row rfl _ _ gb157 26 #[.int .i64 0, .slice none 0 0, .int .u64 18446744073709551615, .int .u64 a0, .int .u64 0, .int .u64 0, .int .u64 0, .int .u64 0, .int .u64 a0, .int .u64 16777216] (0, 0) _ rfl (by (with_reducible repeat (first | refine blk_drewN ?_ _ | refine blk_drew ?_ | refine blk_alloc ?_ _)); refine blk_put (cs := #[.int .i64 0, .slice none 0 0, .int .u64 18446744073709551615, .int .u64 a0, .int .u64 0, .int .u64 0, .int .u64 0, .int .u64 0, .int .u64 a0, .int .u64 0]) ?_ 9 _ rfl; (with_reducible repeat (first | refine blk_drewN ?_ _ | refine blk_drew ?_ | refine blk_alloc ?_ _)); refine blk_put (cs := #[.int .i64 0, .slice none 0 0, .int .u64 18446744073709551615, .int .u64 a0, .int .u64 0, .int .u64 0, .int .u64 0, .int .u64 0, .int .u64 0, .int .u64 0]) ?_ 8 _ rfl; (with_reducible repeat (first | refine blk_drewN ?_ _ | refine blk_drew ?_ | refine blk_alloc ?_ _)); refine blk_put (cs := #[.int .i64 0, .slice none 0 0, .int .u64 18446744073709551615, .int .u64 a0, .int .u64 0, .int .u64 0, .int .u64 0, .int .u64 0, .int .u64 0, .int .u64 0]) ?_ 7 _ rfl; (with_reducible repeat (first | refine blk_drewN ?_ _ | refine blk_drew ?_ | refine blk_alloc ?_ _)); refine blk_put (cs := #[.int .i64 0, .slice none 0 0, .int .u64 18446744073709551615, .int .u64 a0, .int .u64 0, .int .u64 0, .int .u64 0, .int .u64 0, .int .u64 0, .int .u64 0]) ?_ 6 _ rfl; (with_reducible repeat (first | refine blk_drewN ?_ _ | refine blk_drew ?_ | refine blk_alloc ?_ _)); refine blk_put (cs := #[.int .i64 0, .slice none 0 0, .int .u64 18446744073709551615, .int .u64 a0, .int .u64 0, .int .u64 0, .int .u64 0, .int .u64 0, .int .u64 0, .int .u64 0]) ?_ 5 _ rfl; (with_reducible repeat (first | refine blk_drewN ?_ _ | refine blk_drew ?_ | refine blk_alloc ?_ _)); refine blk_put (cs := #[.int .i64 0, .slice none 0 0, .int .u64 18446744073709551615, .int .u64 a0, .int .u64 0, .int .u64 0, .int .u64 0, .int .u64 0, .int .u64 0, .int .u64 0]) ?_ 4 _ rfl; (with_reducible repeat (first | refine blk_drewN ?_ _ | refine blk_drew ?_ | refine blk_alloc ?_ _)); refine blk_put (cs := #[.int .i64 0, .slice none 0 0, .int .u64 18446744073709551615, .int .u64 0, .int .u64 0, .int .u64 0, .int .u64 0, .int .u64 0, .int .u64 0, .int .u64 0]) ?_ 3 _ rfl; (with_reducible repeat (first | refine blk_drewN ?_ _ | refine blk_drew ?_ | refine blk_alloc ?_ _)); refine blk_put (cs := #[.int .i64 0, .slice none 0 0, .int .u64 0, .int .u64 0, .int .u64 0, .int .u64 0, .int .u64 0, .int .u64 0, .int .u64 0, .int .u64 0]) ?_ 2 _ rfl; (with_reducible repeat (first | refine blk_drewN ?_ _ | refine blk_drew ?_ | refine blk_alloc ?_ _)); refine blk_put (cs := #[.int .i64 0, .slice none 0 0, .int .u64 0, .int .u64 0, .int .u64 0, .int .u64 0, .int .u64 0, .int .u64 0, .int .u64 0, .int .u64 0]) ?_ 1 _ rfl; (with_reducible repeat (first | refine blk_drewN ?_ _ | refine blk_drew ?_ | refine blk_alloc ?_ _)); refine blk_put (cs := #[.int .i64 0, .slice none 0 0, .int .u64 0, .int .u64 0, .int .u64 0, .int .u64 0, .int .u64 0, .int .u64 0, .int .u64 0, .int .u64 0]) ?_ 0 _ rfl; (with_reducible repeat (first | refine blk_drewN ?_ _ | refine blk_drew ?_ | refine blk_alloc ?_ _)); exact BK157.out) Try.underlying26 rfl (by kernel_rfl)) rfl ?_
  exact ⟨_, by first | rfl | (simp [errW_none, errW_some] <;> rfl) | (simp [*, errW_none, errW_some] <;> rfl), by first | exact Kd.R_nil .. | exact Kd.N_nil .. | exact Kd.V_nil .. | exact Kd.Q_nil .. | exact Kd.S_nil _ _ _ _ _, by repeat (first | (with_reducible first | exact HB.out | apply below_alloc | apply pw_below_drewN | apply below_drew1 | refine below_set ?_ GE157.out) | exact HB.out)⟩
end Go.Proofs.Ytoanhimhomgjmaa.PPrN
end
