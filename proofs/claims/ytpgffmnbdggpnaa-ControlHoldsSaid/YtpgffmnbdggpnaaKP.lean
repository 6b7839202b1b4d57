/- Several texts of this claim in one. -/
import Derived.Test.YtpgffmnbdggpnaaKA
import Derived.Test.YtpgffmnbdggpnaaKB
section
namespace Go.Proofs.Ytpgffmnbdggpnaa.PCv
open Go.RowKit Go.Proofs.YtpgffmnbdggpnaaW.PrintWords Go.Proofs.YtpgffmnbdggpnaaW.PrintLast Go.Proofs.YtpgffmnbdggpnaaW.PrintMore
set_option linter.unusedVariables false
set_option linter.unusedSimpArgs false
def api_Sample_51.f (l0 : List (S90)) : Option ((List (S90))) := (some (([] : List (S90)) : List (S90))).bind fun y258 => (if y258.length + l0.length < 8796093022208 then (some (y258 ++ l0)) else (none))
set_option maxHeartbeats 8000000 in
set_option maxRecDepth 100000 in
theorem api_Sample_51.calls (A0 : Option Addr) (c0 : Nat) (l0 : List (S90)) (r : List (S90)) (w : World) (hr0 : Kd.C k90 w A0 l0.length l0) (hc0 : l0.length ≤ c0) (h : api_Sample_51.f l0 = some r) :
    Calls Try.prog 51 #[.slice A0 l0.length c0] w fun e w' => ∃ v0_ : Value, e = .returned (v0_) ∧ Kd.R k90 90 w' w.heap.size (fun _ => True) v0_ r ∧ Below w.heap.size w w' := by
  have HR0 := Aside0.mk hr0
  have HC0 := Aside0.mk hc0
  clear HR0 HC0
  have hn0 : ∀ (n c : Nat) (w : World), (binOp .eql 30 (.slice none n c) (.slice none 0 0)).run Try.prog w = .ok (.bool true) w := fun _ _ _ => by kernel_rfl
  have hn1 : ∀ (ad : Addr) (n c : Nat) (w : World), (binOp .eql 30 (.slice (some ad) n c) (.slice none 0 0)).run Try.prog w = .ok (.bool false) w := fun _ _ _ _ => by kernel_rfl
  rcases A0 with _ | ad0
  · have hl : l0 = [] := by
      cases l0 with
      | nil => rfl
      | cons x y =>
        obtain ⟨ad, he, _⟩ := hr0.2.2 (by simp)
        cases he
    subst hl
    have hr : r = [] := by
      unfold api_Sample_51.f at h
      simpa using h.symm
    subst hr
    go_enter Try.func51, Try.ntmps51
    go_wp2
    go_ret
    exact ⟨_, rfl, Kd.R_nil _ _ _ _ _, Below.refl _ _⟩
  have HR0 := Aside0.mk hr0
  have HC0 := Aside0.mk hc0
  clear hr0 hc0
  have HB := Aside0.mk (Below.refl w.heap.size w)
  have H : ((some (([] : List (S90)) : List (S90))).bind fun y258 => (if y258.length + l0.length < 8796093022208 then (some (y258 ++ l0)) else (none))) = some r := h
  clear h
  obtain ⟨y258, hy258⟩ : ∃ y_ : List (S90), y_ = (([] : List (S90))) := ⟨_, rfl⟩
  replace H : (if y258.length + l0.length < 8796093022208 then (some (y258 ++ l0)) else (none)) = some r := by first | (rw [hy258]; with_reducible exact H) | (have H2_ := (Option.bind_some _ _).symm.trans H; rw [hy258]; with_reducible exact H2_) | (have H2_ := (Option.bind_some _ _).symm.trans H; with_reducible exact H2_) | with_reducible exact H | (rw [hy258]; exact H) | exact H
  have Ny258 := Aside0.mk hy258
  clear hy258
  by_cases c2 : y258.length + l0.length < 8796093022208
  · rw [if_pos c2] at H
    have LMc2 := Aside0.mk c2
    clear c2
    obtain ⟨y261, hy261⟩ : ∃ y_ : List (S90), y_ = (y258 ++ l0) := ⟨_, rfl⟩
    replace H : (some y261) = some r := by first | (rw [hy261]; with_reducible exact H) | (have H2_ := (Option.bind_some _ _).symm.trans H; rw [hy261]; with_reducible exact H2_) | (have H2_ := (Option.bind_some _ _).symm.trans H; with_reducible exact H2_) | with_reducible exact H | (rw [hy261]; exact H) | exact H
    have Ny261 := Aside0.mk hy261
    clear hy261
    obtain rfl := Option.some.inj H
    go_enter Try.func51, Try.ntmps51
    go_wp2_with (first | ((with_reducible refine gate_dst (N := 5) rfl ?_); refine Kd.R_lit k90 _ 90 ?hg (N := 5) ?hd (xs := ([] : List (S90))) (inner := []) (ok := fun _ => True) (okp := fun _ => True) ?hr ?hp (fun _ hk => hk) trivial (Below.refl _ _) (Nat.le_refl _) (by simp) ?_; (case hd => rfl); (case hg => rfl); (case hr => first | (go_simp; done) | (go_simp; rfl)); (case hp => exact (Reps.none _ _)); intro v259 w3 ho4 hb hg_ hnew_; clear hg_ hnew_; (first | rw [← Ny258.out] at ho4 | (simp only [Int.reduceToNat] at ho4; rw [← Ny258.out] at ho4)); have n0_ := Aside0.mk (Kd.R_lower ho4 (below_size (by repeat (first | (with_reducible first | exact HB.out | apply below_alloc | apply pw_below_drewN | apply below_drew1) | exact HB.out)))); have n1_ := Aside0.mk (below_step (by repeat (first | (with_reducible first | exact HB.out | apply below_alloc | apply pw_below_drewN | apply below_drew1) | exact HB.out)) hb); clear HB; have HO260 := n0_; have HB := n1_; clear n0_ n1_; clear hb ho4) | ((with_reducible refine gate_builtin (b := .append) (xs := #[.tmp 5, .tmp 6]) rfl ?_); at_builtin; refine Kd.R_append_rows k90 (w0 := w) w.heap.size rfl (.tmp 5) (.tmp 6) 30 90 (.agg #[(.int .u64 0), (.int .u64 0)]) 16 rfl Try.underlying30 info90 rfl (by decide) (by omega) v259 y258 l0 _ _ _ (fun _ => True) (fun _ => False) rfl rfl ?aO ?aR (fun _ _ h => h) (fun _ h => h.elim) ?aF ?aB ?aS ?aL ?_; (case aR => repeat (first | exact (Kd.C_below HR0.out HB.out) | (with_reducible refine Kd.C_alloc ?_ _) | (with_reducible refine Kd.C_drewN ?_ _) | (with_reducible refine Kd.C_drew ?_))); (case aB => exact (by repeat (first | (with_reducible first | exact HB.out | apply below_alloc | apply pw_below_drewN | apply below_drew1) | exact HB.out))); (case aF => exact (fun _ _ => trivial)); (case aO => exact (by (with_reducible repeat (first | apply Kd.R_alloc | apply Kd.R_drewN | apply Kd.R_drew)); exact HO260.out)); (case aS => exact (below_size (by repeat (first | (with_reducible first | exact HB.out | apply below_alloc | apply pw_below_drewN | apply below_drew1) | exact HB.out)))); (case aL => have := LMc2.out; omega); intro v262 w5 ho hb hg hat; rw [← Ny261.out] at ho; have n0_ := Aside0.mk (hb); have n1_ := Aside0.mk (ho); clear HB; clear HO260; have HB := n0_; have HO263 := n1_; clear n0_ n1_; clear ho hb hg hat))
    go_ret
    exact ⟨_, by first | rfl | (simp [errW_none, errW_some] <;> rfl) | (simp [*, errW_none, errW_some] <;> rfl), by (with_reducible repeat (first | apply Kd.R_alloc | apply Kd.R_drewN | apply Kd.R_drew)); exact HO263.out, by repeat (first | (with_reducible first | exact HB.out | apply below_alloc | apply pw_below_drewN | apply below_drew1) | exact HB.out)⟩
  · rw [if_neg c2] at H
    exact absurd H (by simp)
def filt_PushMax_1.f (x0 x1 a1 e : Int) : Option Bool := (fix_Add.f x0 a1).bind fun t => some (decide (e / 18446744073709551616 ≤ t) && decide (e % 18446744073709551616 < x1))
set_option maxHeartbeats 1000000 in
theorem filt_PushMax_1.C (x0 x1 a1 s0 s1 : Int) (gw gs : Nat) (w : World) (ha : W64 x0) (hb : W64 a1) (hw : w.cell? ⟨gw, 0, none⟩ = some (.int .u64 a1)) (h0 : w.cell? ⟨gs, 0, none⟩ = some (.int .u64 s0)) (h1 : w.cell? ⟨gs, 1, none⟩ = some (.int .u64 s1)) :
    Calls Try.prog 65 #[.agg #[.int .u64 x0, .int .u64 x1], .pointer (some ⟨gw, 0, none⟩), .pointer (some ⟨gs, 0, none⟩)] w fun e w' => e = .returned (.bool (decide (s0 ≤ uAdd x0 a1) && decide (s1 < x1))) ∧ Below w.heap.size w w' := by
  have hu := Try.underlying90
  cases hd : decide (s0 ≤ uAdd x0 a1) <;> (
    go_enter Try.func65, Try.ntmps65
    go_wp2_with (first | ((with_reducible refine gate_dst (N := 3) rfl ?_); refine box_event ?hg (N := 3) ?hd (cs := #[.int .u64 x0, .int .u64 x1]) (t := 90) ?hr ?_; (case hd => rfl); (case hg => rfl); (case hr => first | (go_simp; done) | (go_simp; rfl)); intro gb hg w1 hbox hb1; have k0 : w1.cell? ⟨gb, 0, none⟩ = some (.int .u64 x0) := (blk_cell hbox 0).trans rfl; have k1 : w1.cell? ⟨gb, 1, none⟩ = some (.int .u64 x1) := (blk_cell hbox 1).trans rfl; replace hw := (hb1.cell (World.block_lt_of_cell? w _ hw)).trans hw; replace h0 := (hb1.cell (World.block_lt_of_cell? w _ h0)).trans h0; replace h1 := (hb1.cell (World.block_lt_of_cell? w _ h1)).trans h1; clear hbox hg))
    go_quiet ((go_at_call 25; with_reducible exact fix_Add.Q x0 a1 ha hb w1 _))
    go_wp2
    go_ret
    exact ⟨by simp, pw_below_drewN hb1 _⟩)
theorem filt_PushMax_1.calls (x0 x1 a1 e : Int) (r : Bool) (gw gs : Nat) (w : World) (hw : w.cell? ⟨gw, 0, none⟩ = some (.int .u64 a1)) (h0 : w.cell? ⟨gs, 0, none⟩ = some (.int .u64 (e / 18446744073709551616))) (h1 : w.cell? ⟨gs, 1, none⟩ = some (.int .u64 (e % 18446744073709551616))) (h : filt_PushMax_1.f x0 x1 a1 e = some r) :
    Calls Try.prog 65 #[.agg #[.int .u64 x0, .int .u64 x1], .pointer (some ⟨gw, 0, none⟩), .pointer (some ⟨gs, 0, none⟩)] w fun e w' => e = .returned (.bool r) ∧ Below w.heap.size w w' := by
  unfold filt_PushMax_1.f fix_Add.f at h
  split at h
  · rename_i hw2
    simp only [Option.bind_some, Option.some.injEq] at h
    subst h
    exact filt_PushMax_1.C x0 x1 a1 _ _ gw gs w hw2.1 hw2.2 hw h0 h1
  · simp at h
def api_Sample_64.l0 : Nat → Int → Int → List (S90) → List (S90) → Int → Int → Int → Int → Option ((List (S90)))
  | 0, _, _, _, _, _, _, _, _ => none
  | k + 1, x2, x3, x7, x10, x11, x12, x265000, x265001 => if x12 < x11 then (if 0 ≤ x12 then (if x12 < (x10.length : Int) then ((filt_PushMax_1.f ((rd_T90 x10 x12).f0) ((rd_T90 x10 x12).f1) x2 x3).bind fun t267 => (if t267 = true then (if x7.length < 8796093022208 then (api_Sample_64.l0 k x2 x3 (x7 ++ [(⟨(rd_T90 x10 x12).f0, (rd_T90 x10 x12).f1⟩ : S90)]) x10 x11 (wrap64 (x12 + 1)) x265000 x265001) else (none)) else (api_Sample_64.l0 k x2 x3 x7 x10 x11 (wrap64 (x12 + 1)) x265000 x265001))) else (none)) else (none)) else (if x7.length < 8796093022208 then (some (x7 ++ [(⟨x265000, x265001⟩ : S90)])) else (none))
def api_Sample_64.f (k : Nat) (l0 : List (S90)) (a1_0 : Int) (a1_1 : Int) (a2 : Int) (a3 : Int) : Option ((List (S90))) := api_Sample_64.l0 k a2 a3 ([] : List (S90)) l0 (l0.length : Int) 0 a1_0 a1_1
set_option maxHeartbeats 8000000 in
set_option maxRecDepth 100000 in
theorem api_Sample_64.calls (k : Nat) (A0 : Option Addr) (c0 : Nat) (l0 : List (S90)) (a1_0 : Int) (a1_1 : Int) (a2 : Int) (a3 : Int) (r : List (S90)) (gw gs : Nat) (w : World) (hgw : w.cell? ⟨gw, 0, none⟩ = some (.int .u64 a2)) (hg0 : w.cell? ⟨gs, 0, none⟩ = some (.int .u64 (a3 / 18446744073709551616))) (hg1 : w.cell? ⟨gs, 1, none⟩ = some (.int .u64 (a3 % 18446744073709551616))) (hr0 : Kd.C k90 w A0 l0.length l0) (hc0 : l0.length ≤ c0) (h : api_Sample_64.f k l0 a1_0 a1_1 a2 a3 = some r) :
    Calls Try.prog 64 #[.slice A0 l0.length c0, .agg #[.int .u64 a1_0, .int .u64 a1_1], .func (.func 65) #[] #[.pointer (some ⟨gw, 0, none⟩), .pointer (some ⟨gs, 0, none⟩)]] w fun e w' => ∃ v0_ : Value, e = .returned (v0_) ∧ Kd.R k90 90 w' w.heap.size (fun _ => True) v0_ r ∧ Below w.heap.size w w' := by
  have hu90 := Try.underlying90
  have HR0 := Aside0.mk hr0
  have HC0 := Aside0.mk hc0
  clear hr0 hc0
  have HB := Aside0.mk (Below.refl w.heap.size w)
  have H : (api_Sample_64.l0 k a2 a3 ([] : List (S90)) l0 (l0.length : Int) 0 a1_0 a1_1) = some r := h
  clear h
  have H' := Aside0.mk H
  clear H
  go_enter Try.func64, Try.ntmps64
  go_wp2_with (first | ((with_reducible refine gate_dst (N := 4) rfl ?_); refine box_event ?hg (N := 4) ?hd (cs := #[.int .u64 a1_0, .int .u64 a1_1]) (t := 90) ?hr ?_; (case hd => rfl); (case hg => rfl); (case hr => first | (go_simp; done) | (go_simp; rfl)); intro gb264 hg w5 hbox hb; have n0_ := Aside0.mk (below_step (by repeat (first | (with_reducible first | exact HB.out | apply below_alloc | apply pw_below_drewN | apply below_drew1) | exact HB.out)) hb); have n1_ := Aside0.mk (hbox); have n2_ := Aside0.mk ((by rw [hg]; exact (below_size (by repeat (first | (with_reducible first | exact HB.out | apply below_alloc | apply pw_below_drewN | apply below_drew1) | exact HB.out))) : w.heap.size ≤ gb264)); have n3_ := Aside0.mk ((by rw [hg]; exact (below_size (by repeat (first | (with_reducible first | exact HB.out | apply below_alloc | apply pw_below_drewN | apply below_drew1) | exact HB.out))) : w.heap.size ≤ gb264)); clear HB; have HB := n0_; have BK264 := n1_; have GW264 := n2_; have GE264 := n3_; clear n0_ n1_ n2_ n3_; clear hb hbox hg))
  go_loopg [7, 12] k (fun kq v7 v12 w' => ∃ (x7_1 : List (S90)) (x12_1 : Int), v12 = .int .i64 x12_1 ∧ Aside0 (api_Sample_64.l0 kq a2 a3 x7_1 l0 (l0.length : Int) x12_1 a1_0 a1_1 = some r) ∧ Aside0 (kq ≤ k) ∧ Aside0 (Kd.R k90 90 w' w.heap.size (fun k_ => k_ ≠ gb264) v7 x7_1) ∧ Aside0 (w'.heap[gb264]? = some (.cells #[.int .u64 a1_0, .int .u64 a1_1] 90 (0, 0))) ∧ Aside0 (Below w.heap.size w w'))
  case atStart => exact ⟨(([] : List (S90))), (0), (by first | rfl | (simp; done) | (simp [*]; done)), H', ⟨Nat.le_refl _⟩, ⟨by first | exact Kd.R_nil .. | exact Kd.N_nil .. | exact Kd.V_nil .. | exact Kd.Q_nil .. | exact Kd.S_nil _ _ _ _ _⟩, ⟨by (with_reducible repeat (first | refine blk_drewN ?_ _ | refine blk_drew ?_ | refine blk_alloc ?_ _)); exact BK264.out⟩, ⟨by repeat (first | (with_reducible first | exact HB.out | apply below_alloc | apply pw_below_drewN | apply below_drew1 | refine below_set ?_ GE264.out) | exact HB.out)⟩⟩
  case round =>
    clear H'
    try clear p2
    obtain ⟨x7_1, x12_1, rfl, HA, HK1, HO_7, BK264, HB⟩ := hrel
    cases gk with
    | zero => exact absurd HA.out (by simp [api_Sample_64.l0])
    | succ k1 =>
      have H := HA.out
      clear HA
      simp only [api_Sample_64.l0] at H
      by_cases c6 : x12_1 < (l0.length : Int)
      · rw [if_pos c6] at H
        have c6b0 : decide (x12_1 < (l0.length : Int)) = true := decide_eq_true c6
        clear c6
        by_cases c7 : 0 ≤ x12_1
        · rw [if_pos c7] at H
          have c7b0 : decide (0 ≤ x12_1) = true := decide_eq_true c7
          clear c7
          by_cases c8 : x12_1 < (l0.length : Int)
          · rw [if_pos c8] at H
            have c8b0 : decide (x12_1 < (l0.length : Int)) = true := decide_eq_true c8
            clear c8
            replace H := Option.bind_eq_some_iff.mp H
            obtain ⟨t267, A90, H⟩ := H
            replace H : (if t267 = true then (if x7_1.length < 8796093022208 then (api_Sample_64.l0 k1 a2 a3 (x7_1 ++ [(⟨(rd_T90 l0 x12_1).f0, (rd_T90 l0 x12_1).f1⟩ : S90)]) l0 (l0.length : Int) (wrap64 (x12_1 + 1)) a1_0 a1_1) else (none)) else (api_Sample_64.l0 k1 a2 a3 x7_1 l0 (l0.length : Int) (wrap64 (x12_1 + 1)) a1_0 a1_1)) = some r := H
            have A9 := Aside0.mk A90
            clear A90
            by_cases c10 : t267 = true
            · subst c10
              have H1 : (if x7_1.length < 8796093022208 then (api_Sample_64.l0 k1 a2 a3 (x7_1 ++ [(⟨(rd_T90 l0 x12_1).f0, (rd_T90 l0 x12_1).f1⟩ : S90)]) l0 (l0.length : Int) (wrap64 (x12_1 + 1)) a1_0 a1_1) else (none)) = some r := by rw [if_pos rfl] at H; exact H
              clear H
              have H := H1
              clear H1
              by_cases c11 : x7_1.length < 8796093022208
              · rw [if_pos c11] at H
                have LMc11 := Aside0.mk c11
                clear c11
                obtain ⟨y268, hy268⟩ : ∃ y_ : List (S90), y_ = (x7_1 ++ [(⟨(rd_T90 l0 x12_1).f0, (rd_T90 l0 x12_1).f1⟩ : S90)]) := ⟨_, rfl⟩
                replace H : (api_Sample_64.l0 k1 a2 a3 y268 l0 (l0.length : Int) (wrap64 (x12_1 + 1)) a1_0 a1_1) = some r := by first | (rw [hy268]; with_reducible exact H) | (have H2_ := (Option.bind_some _ _).symm.trans H; rw [hy268]; with_reducible exact H2_) | (have H2_ := (Option.bind_some _ _).symm.trans H; with_reducible exact H2_) | with_reducible exact H | (rw [hy268]; exact H) | exact H
                have Ny268 := Aside0.mk hy268
                clear hy268
                have H' := Aside0.mk H
                clear H
                have p265 : 0 ≤ (x12_1 : Int) := of_decide_eq_true (by first | (with_reducible assumption) | assumption)
                have q265 : x12_1 < (l0.length : Int) := of_decide_eq_true (by first | (with_reducible assumption) | assumption)
                obtain ⟨ad265, e265, hx265_0, hx265_1⟩ := at_T90 HR0.out x12_1 p265 q265
                cases e265
                replace hx265_0 := (HB.out.cell (World.block_lt_of_cell? w _ hx265_0)).trans hx265_0
                replace hx265_1 := (HB.out.cell (World.block_lt_of_cell? w _ hx265_1)).trans hx265_1
                replace p265 := eq_true p265
                replace q265 := eq_true q265
                go_wp2_with (first | ((with_reducible refine gate_dst (N := 9) rfl ?_); refine box_event ?hg (N := 9) ?hd (cs := #[.int .u64 0, .int .u64 0]) (t := 90) ?hr ?_; (case hd => rfl); (case hg => rfl); (case hr => first | (go_simp; done) | (go_simp; rfl)); intro gb266 hg w12 hbox hb; have n0_ := Aside0.mk (Kd.R_below (Kd.R_elderB (by (with_reducible repeat (first | apply Kd.R_alloc | apply Kd.R_drewN | apply Kd.R_drew)); exact HO_7.out) gb266 (Nat.le_of_eq hg.symm)) hb); have n1_ := Aside0.mk (blk_below (g := gb264) (o := .cells #[.int .u64 a1_0, .int .u64 a1_1] 90 (0, 0)) (by (with_reducible repeat (first | refine blk_drewN ?_ _ | refine blk_drew ?_ | refine blk_alloc ?_ _)); exact BK264.out) hb); have n2_ := Aside0.mk (below_step (by repeat (first | (with_reducible first | exact HB.out | apply below_alloc | apply pw_below_drewN | apply below_drew1 | refine below_set ?_ GE264.out) | exact HB.out)) hb); have n3_ := Aside0.mk (hbox); have n4_ := Aside0.mk ((by rw [hg]; exact (below_size (by repeat (first | (with_reducible first | exact HB.out | apply below_alloc | apply pw_below_drewN | apply below_drew1 | refine below_set ?_ GE264.out) | exact HB.out))) : w.heap.size ≤ gb266)); have n5_ := Aside0.mk ((by rw [hg]; exact (below_size (by repeat (first | (with_reducible first | exact HB.out | apply below_alloc | apply pw_below_drewN | apply below_drew1 | refine below_set ?_ GE264.out) | exact HB.out))) : w.heap.size ≤ gb266)); have n6_ := Aside0.mk ((by rw [hg]; exact Nat.ne_of_lt (blk_lt (g := gb264) (o := .cells #[.int .u64 a1_0, .int .u64 a1_1] 90 (0, 0)) (by (with_reducible repeat (first | refine blk_drewN ?_ _ | refine blk_drew ?_ | refine blk_alloc ?_ _)); exact BK264.out)) : gb264 ≠ gb266)); have n7_ := Aside0.mk ((by rw [hg]; exact Nat.ne_of_gt (blk_lt (g := gb264) (o := .cells #[.int .u64 a1_0, .int .u64 a1_1] 90 (0, 0)) (by (with_reducible repeat (first | refine blk_drewN ?_ _ | refine blk_drew ?_ | refine blk_alloc ?_ _)); exact BK264.out)) : gb266 ≠ gb264)); clear HO_7; clear BK264; clear HB; have HO_7 := n0_; have BK264 := n1_; have HB := n2_; have BK266 := n3_; have GW266 := n4_; have GE266 := n5_; have NB264_266 := n6_; have NB266_264 := n7_; clear n0_ n1_ n2_ n3_ n4_ n5_ n6_ n7_; clear hb hbox hg; have hnb13 := NB266_264.out; have hnc13 := NB264_266.out; have hcz14_0 : w12.cell? ⟨gb266, 0, none⟩ = some (.int .u64 0) := (blk_cell BK266.out 0).trans rfl; have hcz14_1 : w12.cell? ⟨gb266, 1, none⟩ = some (.int .u64 0) := (blk_cell BK266.out 1).trans rfl; have hfz14_0 := blk_frozen BK266.out 0; have hfz14_1 := blk_frozen BK266.out 1) | ((go_at_call 65); (refine Calls.mono (filt_PushMax_1.calls ((rd_T90 l0 x12_1).f0) ((rd_T90 l0 x12_1).f1) a2 a3 true gw gs _ ?c1 ?c2 ?c3 A9.out) ?_); (case c1 => exact (Below.cell (by repeat (first | (with_reducible first | exact HB.out | apply below_alloc | apply pw_below_drewN | apply below_drew1 | refine below_set ?_ GE264.out | refine below_set ?_ GE266.out) | exact HB.out)) (World.block_lt_of_cell? w _ hgw)).trans hgw); (case c2 => exact (Below.cell (by repeat (first | (with_reducible first | exact HB.out | apply below_alloc | apply pw_below_drewN | apply below_drew1 | refine below_set ?_ GE264.out | refine below_set ?_ GE266.out) | exact HB.out)) (World.block_lt_of_cell? w _ hg0)).trans hg0); (case c3 => exact (Below.cell (by repeat (first | (with_reducible first | exact HB.out | apply below_alloc | apply pw_below_drewN | apply below_drew1 | refine below_set ?_ GE264.out | refine below_set ?_ GE266.out) | exact HB.out)) (World.block_lt_of_cell? w _ hg1)).trans hg1); rintro e w15 ⟨rfl, hb⟩; have n0_ := Aside0.mk (Kd.R_below (by (with_reducible repeat (first | apply Kd.R_alloc | apply Kd.R_drewN | apply Kd.R_drew)); exact (Kd.R_mono (Kd.R_far (p := ⟨gb266, 1, none⟩) (Kd.R_far (p := ⟨gb266, 0, none⟩) (Kd.R_mono HO_7.out (fun k_ hk => (⟨hk, hk.2⟩ : _ ∧ k_ ≠ gb266))) (fun _ hk => hk.2) (.int .u64 ((rd_T90 l0 x12_1).f0))) (fun _ hk => hk.2) (.int .u64 ((rd_T90 l0 x12_1).f1))) (fun _ h_ => h_.1))) hb); have n1_ := Aside0.mk (blk_below (g := gb264) (o := .cells #[.int .u64 a1_0, .int .u64 a1_1] 90 (0, 0)) (by (with_reducible repeat (first | refine blk_drewN ?_ _ | refine blk_drew ?_ | refine blk_alloc ?_ _)); refine blk_far ?_ NB264_266.out _; (with_reducible repeat (first | refine blk_drewN ?_ _ | refine blk_drew ?_ | refine blk_alloc ?_ _)); refine blk_far ?_ NB264_266.out _; (with_reducible repeat (first | refine blk_drewN ?_ _ | refine blk_drew ?_ | refine blk_alloc ?_ _)); exact BK264.out) hb); have n2_ := Aside0.mk (blk_below (g := gb266) (o := .cells #[.int .u64 ((rd_T90 l0 x12_1).f0), .int .u64 ((rd_T90 l0 x12_1).f1)] 90 (0, 0)) (by (with_reducible repeat (first | refine blk_drewN ?_ _ | refine blk_drew ?_ | refine blk_alloc ?_ _)); refine blk_put (cs := #[.int .u64 ((rd_T90 l0 x12_1).f0), .int .u64 0]) ?_ 1 _ rfl; (with_reducible repeat (first | refine blk_drewN ?_ _ | refine blk_drew ?_ | refine blk_alloc ?_ _)); refine blk_put (cs := #[.int .u64 0, .int .u64 0]) ?_ 0 _ rfl; (with_reducible repeat (first | refine blk_drewN ?_ _ | refine blk_drew ?_ | refine blk_alloc ?_ _)); exact BK266.out) hb); have n3_ := Aside0.mk (below_step (by repeat (first | (with_reducible first | exact HB.out | apply below_alloc | apply pw_below_drewN | apply below_drew1 | refine below_set ?_ GE264.out | refine below_set ?_ GE266.out) | exact HB.out)) hb); clear HO_7; clear BK264; clear BK266; clear HB; have HO_7 := n0_; have BK264 := n1_; have BK266 := n2_; have HB := n3_; clear n0_ n1_ n2_ n3_; (try clear hb); (try clear hb2); (try clear hk); (try clear hi); have hcz16_0 : w15.cell? ⟨gb266, 0, none⟩ = some (.int .u64 ((rd_T90 l0 x12_1).f0)) := (blk_cell BK266.out 0).trans rfl; have hcz16_1 : w15.cell? ⟨gb266, 1, none⟩ = some (.int .u64 ((rd_T90 l0 x12_1).f1)) := (blk_cell BK266.out 1).trans rfl; have hfz16_0 := blk_frozen BK266.out 0; have hfz16_1 := blk_frozen BK266.out 1) | ((with_reducible refine gate_builtin (b := .append) (xs := #[.tmp 19, .tmp 21]) rfl ?_); at_builtin; refine Kd.R_append k90 (w0 := w) w.heap.size rfl (.tmp 19) (.tmp 21) 30 90 (.agg #[(.int .u64 0), (.int .u64 0)]) 16 rfl Try.underlying30 info90 rfl (by decide) (by omega) u7 x7_1 (⟨(rd_T90 l0 x12_1).f0, (rd_T90 l0 x12_1).f1⟩ : S90) [.int .u64 ((rd_T90 l0 x12_1).f0), .int .u64 ((rd_T90 l0 x12_1).f1)] (fun k_ => k_ ≠ gb264 ∧ k_ ≠ gb266) (fun _ => False) rfl rfl ?aP (fun _ hk => hk.elim) ?aF ?aO ?aB ?aS ?aL ?_; (case aP => exact k90_mkM _ _ _ (⟨(rd_T90 l0 x12_1).f0, (rd_T90 l0 x12_1).f1⟩ : S90)); (case aB => exact (by repeat (first | (with_reducible first | exact HB.out | apply below_alloc | apply pw_below_drewN | apply below_drew1 | refine below_set ?_ GE264.out | refine below_set ?_ GE266.out) | exact HB.out))); (case aF => exact (fun k_ hk => ⟨Kd.freshB (g := gb264) (o := .cells #[.int .u64 a1_0, .int .u64 a1_1] 90 (0, 0)) (by (with_reducible repeat (first | refine blk_drewN ?_ _ | refine blk_drew ?_ | refine blk_alloc ?_ _)); exact BK264.out) k_ hk, Kd.freshB (g := gb266) (o := .cells #[.int .u64 ((rd_T90 l0 x12_1).f0), .int .u64 ((rd_T90 l0 x12_1).f1)] 90 (0, 0)) (by (with_reducible repeat (first | refine blk_drewN ?_ _ | refine blk_drew ?_ | refine blk_alloc ?_ _)); exact BK266.out) k_ hk⟩)); (case aO => exact (by (with_reducible repeat (first | apply Kd.R_alloc | apply Kd.R_drewN | apply Kd.R_drew)); exact HO_7.out)); (case aS => exact (below_size (by repeat (first | (with_reducible first | exact HB.out | apply below_alloc | apply pw_below_drewN | apply below_drew1 | refine below_set ?_ GE264.out | refine below_set ?_ GE266.out) | exact HB.out)))); (case aL => have := LMc11.out; omega); intro v269 w17 ho hb hg hat; rw [← Ny268.out] at ho; have n0_ := Aside0.mk (blk_grown (g := gb264) (o := .cells #[.int .u64 a1_0, .int .u64 a1_1] 90 (0, 0)) (by (with_reducible repeat (first | refine blk_drewN ?_ _ | refine blk_drew ?_ | refine blk_alloc ?_ _)); exact BK264.out) hg (Kd.R_away HO_7.out (fun _ hk => hk.1))); have n1_ := Aside0.mk (blk_grown (g := gb266) (o := .cells #[.int .u64 ((rd_T90 l0 x12_1).f0), .int .u64 ((rd_T90 l0 x12_1).f1)] 90 (0, 0)) (by (with_reducible repeat (first | refine blk_drewN ?_ _ | refine blk_drew ?_ | refine blk_alloc ?_ _)); exact BK266.out) hg (Kd.R_away HO_7.out (fun _ hk => hk.2))); have n2_ := Aside0.mk (hb); have n3_ := Aside0.mk (ho); clear BK264; clear BK266; clear HB; clear HO_7; have BK264 := n0_; have BK266 := n1_; have HB := n2_; have HO270 := n3_; clear n0_ n1_ n2_ n3_; clear ho hb hg hat))
                go_roundg k1
                case measure => have := HK1.out; omega
                case rel => exact ⟨(y268), (wrap64 (x12_1 + 1)), (by first | rfl | (simp; done) | (simp [*]; done)), H', ⟨by have := HK1.out; omega⟩, ⟨by (with_reducible repeat (first | apply Kd.R_alloc | apply Kd.R_drewN | apply Kd.R_drew)); exact Kd.R_mono HO270.out (fun _ hk => hk.1)⟩, ⟨by (with_reducible repeat (first | refine blk_drewN ?_ _ | refine blk_drew ?_ | refine blk_alloc ?_ _)); exact BK264.out⟩, ⟨by repeat (first | (with_reducible first | exact HB.out | apply below_alloc | apply pw_below_drewN | apply below_drew1 | refine below_set ?_ GE264.out | refine below_set ?_ GE266.out) | exact HB.out)⟩⟩
              · rw [if_neg c11] at H
                exact absurd H (by simp)
            · replace c10 := Bool.eq_false_iff.mpr c10
              subst c10
              have H1 : (api_Sample_64.l0 k1 a2 a3 x7_1 l0 (l0.length : Int) (wrap64 (x12_1 + 1)) a1_0 a1_1) = some r := by rw [if_neg (show ¬ (false = true) by decide)] at H; exact H
              clear H
              have H := H1
              clear H1
              have H' := Aside0.mk H
              clear H
              have p265 : 0 ≤ (x12_1 : Int) := of_decide_eq_true (by first | (with_reducible assumption) | assumption)
              have q265 : x12_1 < (l0.length : Int) := of_decide_eq_true (by first | (with_reducible assumption) | assumption)
              obtain ⟨ad265, e265, hx265_0, hx265_1⟩ := at_T90 HR0.out x12_1 p265 q265
              cases e265
              replace hx265_0 := (HB.out.cell (World.block_lt_of_cell? w _ hx265_0)).trans hx265_0
              replace hx265_1 := (HB.out.cell (World.block_lt_of_cell? w _ hx265_1)).trans hx265_1
              replace p265 := eq_true p265
              replace q265 := eq_true q265
              go_wp2_with (first | ((with_reducible refine gate_dst (N := 9) rfl ?_); refine box_event ?hg (N := 9) ?hd (cs := #[.int .u64 0, .int .u64 0]) (t := 90) ?hr ?_; (case hd => rfl); (case hg => rfl); (case hr => first | (go_simp; done) | (go_simp; rfl)); intro gb266 hg w18 hbox hb; have n0_ := Aside0.mk (Kd.R_below (Kd.R_elderB (by (with_reducible repeat (first | apply Kd.R_alloc | apply Kd.R_drewN | apply Kd.R_drew)); exact HO_7.out) gb266 (Nat.le_of_eq hg.symm)) hb); have n1_ := Aside0.mk (blk_below (g := gb264) (o := .cells #[.int .u64 a1_0, .int .u64 a1_1] 90 (0, 0)) (by (with_reducible repeat (first | refine blk_drewN ?_ _ | refine blk_drew ?_ | refine blk_alloc ?_ _)); exact BK264.out) hb); have n2_ := Aside0.mk (below_step (by repeat (first | (with_reducible first | exact HB.out | apply below_alloc | apply pw_below_drewN | apply below_drew1 | refine below_set ?_ GE264.out) | exact HB.out)) hb); have n3_ := Aside0.mk (hbox); have n4_ := Aside0.mk ((by rw [hg]; exact (below_size (by repeat (first | (with_reducible first | exact HB.out | apply below_alloc | apply pw_below_drewN | apply below_drew1 | refine below_set ?_ GE264.out) | exact HB.out))) : w.heap.size ≤ gb266)); have n5_ := Aside0.mk ((by rw [hg]; exact (below_size (by repeat (first | (with_reducible first | exact HB.out | apply below_alloc | apply pw_below_drewN | apply below_drew1 | refine below_set ?_ GE264.out) | exact HB.out))) : w.heap.size ≤ gb266)); have n6_ := Aside0.mk ((by rw [hg]; exact Nat.ne_of_lt (blk_lt (g := gb264) (o := .cells #[.int .u64 a1_0, .int .u64 a1_1] 90 (0, 0)) (by (with_reducible repeat (first | refine blk_drewN ?_ _ | refine blk_drew ?_ | refine blk_alloc ?_ _)); exact BK264.out)) : gb264 ≠ gb266)); have n7_ := Aside0.mk ((by rw [hg]; exact Nat.ne_of_gt (blk_lt (g := gb264) (o := .cells #[.int .u64 a1_0, .int .u64 a1_1] 90 (0, 0)) (by (with_reducible repeat (first | refine blk_drewN ?_ _ | refine blk_drew ?_ | refine blk_alloc ?_ _)); exact BK264.out)) : gb266 ≠ gb264)); clear HO_7; clear BK264; clear HB; have HO_7 := n0_; have BK264 := n1_; have HB := n2_; have BK266 := n3_; have GW266 := n4_; have GE266 := n5_; have NB264_266 := n6_; have NB266_264 := n7_; clear n0_ n1_ n2_ n3_ n4_ n5_ n6_ n7_; clear hb hbox hg; have hnb19 := NB266_264.out; have hnc19 := NB264_266.out; have hcz20_0 : w18.cell? ⟨gb266, 0, none⟩ = some (.int .u64 0) := (blk_cell BK266.out 0).trans rfl; have hcz20_1 : w18.cell? ⟨gb266, 1, none⟩ = some (.int .u64 0) := (blk_cell BK266.out 1).trans rfl; have hfz20_0 := blk_frozen BK266.out 0; have hfz20_1 := blk_frozen BK266.out 1) | ((go_at_call 65); (refine Calls.mono (filt_PushMax_1.calls ((rd_T90 l0 x12_1).f0) ((rd_T90 l0 x12_1).f1) a2 a3 false gw gs _ ?c1 ?c2 ?c3 A9.out) ?_); (case c1 => exact (Below.cell (by repeat (first | (with_reducible first | exact HB.out | apply below_alloc | apply pw_below_drewN | apply below_drew1 | refine below_set ?_ GE264.out | refine below_set ?_ GE266.out) | exact HB.out)) (World.block_lt_of_cell? w _ hgw)).trans hgw); (case c2 => exact (Below.cell (by repeat (first | (with_reducible first | exact HB.out | apply below_alloc | apply pw_below_drewN | apply below_drew1 | refine below_set ?_ GE264.out | refine below_set ?_ GE266.out) | exact HB.out)) (World.block_lt_of_cell? w _ hg0)).trans hg0); (case c3 => exact (Below.cell (by repeat (first | (with_reducible first | exact HB.out | apply below_alloc | apply pw_below_drewN | apply below_drew1 | refine below_set ?_ GE264.out | refine below_set ?_ GE266.out) | exact HB.out)) (World.block_lt_of_cell? w _ hg1)).trans hg1); rintro e w21 ⟨rfl, hb⟩; have n0_ := Aside0.mk (Kd.R_below (by (with_reducible repeat (first | apply Kd.R_alloc | apply Kd.R_drewN | apply Kd.R_drew)); exact (Kd.R_mono (Kd.R_far (p := ⟨gb266, 1, none⟩) (Kd.R_far (p := ⟨gb266, 0, none⟩) (Kd.R_mono HO_7.out (fun k_ hk => (⟨hk, hk.2⟩ : _ ∧ k_ ≠ gb266))) (fun _ hk => hk.2) (.int .u64 ((rd_T90 l0 x12_1).f0))) (fun _ hk => hk.2) (.int .u64 ((rd_T90 l0 x12_1).f1))) (fun _ h_ => h_.1))) hb); have n1_ := Aside0.mk (blk_below (g := gb264) (o := .cells #[.int .u64 a1_0, .int .u64 a1_1] 90 (0, 0)) (by (with_reducible repeat (first | refine blk_drewN ?_ _ | refine blk_drew ?_ | refine blk_alloc ?_ _)); refine blk_far ?_ NB264_266.out _; (with_reducible repeat (first | refine blk_drewN ?_ _ | refine blk_drew ?_ | refine blk_alloc ?_ _)); refine blk_far ?_ NB264_266.out _; (with_reducible repeat (first | refine blk_drewN ?_ _ | refine blk_drew ?_ | refine blk_alloc ?_ _)); exact BK264.out) hb); have n2_ := Aside0.mk (blk_below (g := gb266) (o := .cells #[.int .u64 ((rd_T90 l0 x12_1).f0), .int .u64 ((rd_T90 l0 x12_1).f1)] 90 (0, 0)) (by (with_reducible repeat (first | refine blk_drewN ?_ _ | refine blk_drew ?_ | refine blk_alloc ?_ _)); refine blk_put (cs := #[.int .u64 ((rd_T90 l0 x12_1).f0), .int .u64 0]) ?_ 1 _ rfl; (with_reducible repeat (first | refine blk_drewN ?_ _ | refine blk_drew ?_ | refine blk_alloc ?_ _)); refine blk_put (cs := #[.int .u64 0, .int .u64 0]) ?_ 0 _ rfl; (with_reducible repeat (first | refine blk_drewN ?_ _ | refine blk_drew ?_ | refine blk_alloc ?_ _)); exact BK266.out) hb); have n3_ := Aside0.mk (below_step (by repeat (first | (with_reducible first | exact HB.out | apply below_alloc | apply pw_below_drewN | apply below_drew1 | refine below_set ?_ GE264.out | refine below_set ?_ GE266.out) | exact HB.out)) hb); clear HO_7; clear BK264; clear BK266; clear HB; have HO_7 := n0_; have BK264 := n1_; have BK266 := n2_; have HB := n3_; clear n0_ n1_ n2_ n3_; (try clear hb); (try clear hb2); (try clear hk); (try clear hi)))
              go_roundg k1
              case measure => have := HK1.out; omega
              case rel => exact ⟨(x7_1), (wrap64 (x12_1 + 1)), (by first | rfl | (simp; done) | (simp [*]; done)), H', ⟨by have := HK1.out; omega⟩, ⟨by (with_reducible repeat (first | apply Kd.R_alloc | apply Kd.R_drewN | apply Kd.R_drew)); exact Kd.R_mono HO_7.out (fun _ hk => hk.1)⟩, ⟨by (with_reducible repeat (first | refine blk_drewN ?_ _ | refine blk_drew ?_ | refine blk_alloc ?_ _)); exact BK264.out⟩, ⟨by repeat (first | (with_reducible first | exact HB.out | apply below_alloc | apply pw_below_drewN | apply below_drew1 | refine below_set ?_ GE264.out | refine below_set ?_ GE266.out) | exact HB.out)⟩⟩
          · rw [if_neg c8] at H
            exact absurd H (by simp)
        · rw [if_neg c7] at H
          exact absurd H (by simp)
      · rw [if_neg c6] at H
        have c6b0 : decide (x12_1 < (l0.length : Int)) = false := decide_eq_false c6
        clear c6
        by_cases c22 : x7_1.length < 8796093022208
        · rw [if_pos c22] at H
          have LMc22 := Aside0.mk c22
          clear c22
          obtain ⟨y271, hy271⟩ : ∃ y_ : List (S90), y_ = (x7_1 ++ [(⟨a1_0, a1_1⟩ : S90)]) := ⟨_, rfl⟩
          replace H : (some y271) = some r := by first | (rw [hy271]; with_reducible exact H) | (have H2_ := (Option.bind_some _ _).symm.trans H; rw [hy271]; with_reducible exact H2_) | (have H2_ := (Option.bind_some _ _).symm.trans H; with_reducible exact H2_) | with_reducible exact H | (rw [hy271]; exact H) | exact H
          have Ny271 := Aside0.mk hy271
          clear hy271
          obtain rfl := Option.some.inj H
          have hcz23_0 : wr.cell? ⟨gb264, 0, none⟩ = some (.int .u64 a1_0) := (blk_cell BK264.out 0).trans rfl
          have hcz23_1 : wr.cell? ⟨gb264, 1, none⟩ = some (.int .u64 a1_1) := (blk_cell BK264.out 1).trans rfl
          have hfz23_0 := blk_frozen BK264.out 0
          have hfz23_1 := blk_frozen BK264.out 1
          go_wp2_with (first | ((with_reducible refine gate_builtin (b := .append) (xs := #[.tmp 24, .tmp 26]) rfl ?_); at_builtin; refine Kd.R_append k90 (w0 := w) w.heap.size rfl (.tmp 24) (.tmp 26) 30 90 (.agg #[(.int .u64 0), (.int .u64 0)]) 16 rfl Try.underlying30 info90 rfl (by decide) (by omega) u7 x7_1 (⟨a1_0, a1_1⟩ : S90) [.int .u64 a1_0, .int .u64 a1_1] (fun k_ => k_ ≠ gb264) (fun _ => False) rfl rfl ?aP (fun _ hk => hk.elim) ?aF ?aO ?aB ?aS ?aL ?_; (case aP => exact k90_mkM _ _ _ (⟨a1_0, a1_1⟩ : S90)); (case aB => exact (by repeat (first | (with_reducible first | exact HB.out | apply below_alloc | apply pw_below_drewN | apply below_drew1 | refine below_set ?_ GE264.out) | exact HB.out))); (case aF => exact (fun k_ hk => Kd.freshB (g := gb264) (o := .cells #[.int .u64 a1_0, .int .u64 a1_1] 90 (0, 0)) (by (with_reducible repeat (first | refine blk_drewN ?_ _ | refine blk_drew ?_ | refine blk_alloc ?_ _)); exact BK264.out) k_ hk)); (case aO => exact (by (with_reducible repeat (first | apply Kd.R_alloc | apply Kd.R_drewN | apply Kd.R_drew)); exact HO_7.out)); (case aS => exact (below_size (by repeat (first | (with_reducible first | exact HB.out | apply below_alloc | apply pw_below_drewN | apply below_drew1 | refine below_set ?_ GE264.out) | exact HB.out)))); (case aL => have := LMc22.out; omega); intro v272 w24 ho hb hg hat; rw [← Ny271.out] at ho; have n0_ := Aside0.mk (blk_grown (g := gb264) (o := .cells #[.int .u64 a1_0, .int .u64 a1_1] 90 (0, 0)) (by (with_reducible repeat (first | refine blk_drewN ?_ _ | refine blk_drew ?_ | refine blk_alloc ?_ _)); exact BK264.out) hg (Kd.R_away HO_7.out (fun _ hk => hk))); have n1_ := Aside0.mk (hb); have n2_ := Aside0.mk (ho); clear BK264; clear HB; clear HO_7; have BK264 := n0_; have HB := n1_; have HO273 := n2_; clear n0_ n1_ n2_; clear ho hb hg hat))
          go_ret
          exact ⟨_, by first | rfl | (simp [errW_none, errW_some] <;> rfl) | (simp [*, errW_none, errW_some] <;> rfl), by (with_reducible repeat (first | apply Kd.R_alloc | apply Kd.R_drewN | apply Kd.R_drew)); exact Kd.R_mono HO273.out (fun _ hk => trivial), by repeat (first | (with_reducible first | exact HB.out | apply below_alloc | apply pw_below_drewN | apply below_drew1 | refine below_set ?_ GE264.out) | exact HB.out)⟩
        · rw [if_neg c22] at H
          exact absurd H (by simp)
def filt_PushMax.f (k : Nat) (l0 : List (S90)) (a1 : Int) (a2_0 : Int) (a2_1 : Int) : Option (List (S90)) := if W64 a2_0 ∧ W64 a2_1 then api_Sample_64.f k l0 a2_0 a2_1 a1 (a2_0 * 18446744073709551616 + a2_1) else none
set_option maxHeartbeats 1000000 in
theorem filt_PushMax.calls (k : Nat) (A0 : Option Addr) (c0 : Nat) (l0 : List (S90)) (a1 : Int) (a2_0 : Int) (a2_1 : Int) (r : List (S90)) (w : World) (hr0 : Kd.C k90 w A0 l0.length l0) (hc0 : l0.length ≤ c0) (h : filt_PushMax.f k l0 a1 a2_0 a2_1 = some r) :
    Calls Try.prog 52 #[.slice A0 l0.length c0, .int .u64 a1, .agg #[.int .u64 a2_0, .int .u64 a2_1]] w fun e w' => ∃ v0_ : Value, e = .returned (v0_) ∧ Kd.R k90 90 w' w.heap.size (fun _ => True) v0_ r ∧ Below w.heap.size w w' := by
  have hu52 := Try.underlying90
  have hmf : ∀ (fn : Fn) (first cap : Array Value) (w : World), (Instr.makeFunc fn first cap).run Try.prog w = .ok (.func fn first cap) w := fun _ _ _ _ => rfl
  unfold filt_PushMax.f at h
  split at h
  · rename_i hw
    obtain ⟨⟨h0, h1⟩, h2, h3⟩ := hw
    have e0 : (a2_0 * 18446744073709551616 + a2_1) / 18446744073709551616 = a2_0 := by omega
    have e1 : (a2_0 * 18446744073709551616 + a2_1) % 18446744073709551616 = a2_1 := by omega
    generalize a2_0 * 18446744073709551616 + a2_1 = E at *
    go_enter Try.func52, Try.ntmps52
    have k2 : ((w.alloc (.cells #[.int .u64 a1] 23)).alloc (.cells #[.int .u64 a2_0, .int .u64 a2_1] 90)).cell? ⟨w.heap.size, 0, none⟩ = some (.int .u64 a1) := by go_simp
    have k0 : ((w.alloc (.cells #[.int .u64 a1] 23)).alloc (.cells #[.int .u64 a2_0, .int .u64 a2_1] 90)).cell? ⟨w.heap.size + 1, 0, none⟩ = some (.int .u64 a2_0) := by go_simp
    have k1 : ((w.alloc (.cells #[.int .u64 a1] 23)).alloc (.cells #[.int .u64 a2_0, .int .u64 a2_1] 90)).cell? ⟨w.heap.size + 1, 1, none⟩ = some (.int .u64 a2_1) := by go_simp
    have kb : Below w.heap.size w ((w.alloc (.cells #[.int .u64 a1] 23)).alloc (.cells #[.int .u64 a2_0, .int .u64 a2_1] 90)) := below_alloc (below_alloc (Below.refl _ _) _) _
    go_wp2_with ((go_at_call 64); (refine Calls.mono (api_Sample_64.calls k A0 c0 l0 a2_0 a2_1 a1 E r w.heap.size (w.heap.size + 1) _ k2 (by rw [e0]; exact k0) (by rw [e1]; exact k1) (Kd.C_below hr0 kb) hc0 h) ?_); rintro e w6 ⟨v, rfl, hr, hb6⟩)
    go_ret
    exact ⟨_, rfl, Kd.R_lower hr (below_size kb), below_step kb hb6⟩
  · cases h
def probe_Ack_1.f (_ _ _ : Int) : Option Int := some 0
set_option maxRecDepth 100000 in
set_option maxHeartbeats 1000000 in
theorem probe_Ack_1.C (s p n : Int) (gg gp : Nat) (w : World) {cp : Array Value} (k0 : w.cell? ⟨gg, 0, none⟩ = some (.int .u64 n)) (hp : w.heap[gp]? = some (.cells cp 32 (0, 0))) (hz : 8 < cp.size) (hne : gg ≠ gp) :
    Calls Try.prog 53 #[.int .i64 s, .int .u64 p, .pointer (some ⟨gg, 0, none⟩), .pointer (some ⟨gp, 0, none⟩)] w fun e w' => e = .returned (.tuple #[]) ∧ ∃ nd, w' = (((w.drewN nd).setCell ⟨gp, 0, none⟩ (.int .i64 s)).setCell ⟨gp, 7, none⟩ (.int .u64 p)).setCell ⟨gp, 8, none⟩ (.int .u64 n) := by
  obtain ⟨x0, e0⟩ : ∃ x, cp[0]? = some x := ⟨_, Array.getElem?_eq_getElem (by omega)⟩
  obtain ⟨x7, e7⟩ : ∃ x, cp[7]? = some x := ⟨_, Array.getElem?_eq_getElem (by omega)⟩
  obtain ⟨x8, e8⟩ : ∃ x, cp[8]? = some x := ⟨_, Array.getElem?_eq_getElem (by omega)⟩
  go_enter Try.func53, Try.ntmps53
  refine start_ (n := 10) (S := fun w' => w'.cell? ⟨gg, 0, none⟩ = some (.int .u64 n)) (ds := []) #[false, false, false, false, false, false, false, false, false, false] (by kernel_rfl) rfl rfl k0 (fun hHeld => ?_)
  refine pure_ (i := 0) (N := some 6) (v := ?_) (a' := ?_) #[true, false, false, false, false, false, false, false, false, false] rfl rfl (by kernel_rfl) (fun _ _ _ h => h) (Or.inl ⟨by rfl, ?_⟩) ?_ ?_
  rotate_left
  · intro w'
    go_simp
    with_reducible rfl
  rotate_left
  · simp only [Act.put, List.setIfInBounds_toArray, List.set_cons_zero, List.set_cons_succ, i64_w, i32_w]
    rfl
  refine pure_ (i := 1) (N := some 7) (v := ?_) (a' := ?_) #[true, true, false, false, false, false, false, false, false, false] rfl rfl (by kernel_rfl) (fun _ _ _ h => h) (Or.inl ⟨by rfl, ?_⟩) ?_ ?_
  rotate_left
  · intro w'
    go_simp
    with_reducible rfl
  rotate_left
  · simp only [Act.put, List.setIfInBounds_toArray, List.set_cons_zero, List.set_cons_succ, i64_w, i32_w]
    rfl
  refine pure_ (i := 2) (N := some 8) (v := ?_) (a' := ?_) #[true, true, true, false, false, false, false, false, false, false] rfl rfl (by kernel_rfl) (fun _ _ _ h => h) (Or.inl ⟨by rfl, ?_⟩) ?_ ?_
  rotate_left
  · intro w'
    go_simp
    with_reducible rfl
  rotate_left
  · simp only [Act.put, List.setIfInBounds_toArray, List.set_cons_zero, List.set_cons_succ, i64_w, i32_w]
    rfl
  refine take_ (i := 3) (N := some 9) (v := ?_) (a' := ?_) #[true, true, true, true, false, false, false, false, false, false] rfl rfl (by kernel_rfl) (fun _ _ _ h => h) (Or.inl ⟨by rfl, ?_⟩) hHeld ?_ ?_
  rotate_left
  · intro w' s0
    go_simp
    with_reducible rfl
  rotate_left
  · simp only [Act.put, List.setIfInBounds_toArray, List.set_cons_zero, List.set_cons_succ, i64_w, i32_w]
    rfl
  refine pure_ (i := 4) (N := some 10) (v := ?_) (a' := ?_) #[true, true, true, true, true, false, false, false, false, false] rfl rfl (by kernel_rfl) (fun _ _ _ h => h) (Or.inl ⟨by rfl, ?_⟩) ?_ ?_
  rotate_left
  · intro w'
    go_simp
    with_reducible rfl
  rotate_left
  · simp only [Act.put, List.setIfInBounds_toArray, List.set_cons_zero, List.set_cons_succ, i64_w, i32_w]
    rfl
  refine one_ (i := 5) (N := none) #[true, true, true, true, true, true, false, false, false, false] rfl rfl (by kernel_rfl) (by decide) (fun K hK => ?_)
  have hs0 : w.cell? ⟨gp, 0, none⟩ = some x0 := (blk_cell hp 0).trans e0
  have hf0 := blk_frozen hp 0
  refine skip_ (w1 := ?_) (by rfl) rfl ?_ ?_
  rotate_left
  · go_simp
    rfl
  refine hK.out _ _ ((cell_far (p := ⟨gp, _, none⟩) hne _).trans hHeld) (fun hHeld => ?_)
  clear hK K
  refine pure_ (i := 6) (N := some 11) (v := ?_) (a' := ?_) #[true, true, true, true, true, true, true, false, false, false] rfl rfl (by kernel_rfl) (fun _ _ _ h => h) (Or.inl ⟨by rfl, ?_⟩) ?_ ?_
  rotate_left
  · intro w'
    go_simp
    with_reducible rfl
  rotate_left
  · simp only [Act.put, List.setIfInBounds_toArray, List.set_cons_zero, List.set_cons_succ, i64_w, i32_w]
    rfl
  refine one_ (i := 7) (N := none) #[true, true, true, true, true, true, true, true, false, false] rfl rfl (by kernel_rfl) (by decide) (fun K hK => ?_)
  have hs7 : w.cell? ⟨gp, 7, none⟩ = some x7 := (blk_cell hp 7).trans e7
  have hf7 := blk_frozen hp 7
  refine skip_ (w1 := ?_) (by rfl) rfl ?_ ?_
  rotate_left
  · go_simp
    rfl
  refine hK.out _ _ ((cell_far (p := ⟨gp, _, none⟩) hne _).trans hHeld) (fun hHeld => ?_)
  clear hK K
  refine pure_ (i := 8) (N := some 12) (v := ?_) (a' := ?_) #[true, true, true, true, true, true, true, true, true, false] rfl rfl (by kernel_rfl) (fun _ _ _ h => h) (Or.inl ⟨by rfl, ?_⟩) ?_ ?_
  rotate_left
  · intro w'
    go_simp
    with_reducible rfl
  rotate_left
  · simp only [Act.put, List.setIfInBounds_toArray, List.set_cons_zero, List.set_cons_succ, i64_w, i32_w]
    rfl
  refine one_ (i := 9) (N := none) #[true, true, true, true, true, true, true, true, true, true] rfl rfl (by kernel_rfl) (by decide) (fun K hK => ?_)
  have hs8 : w.cell? ⟨gp, 8, none⟩ = some x8 := (blk_cell hp 8).trans e8
  have hf8 := blk_frozen hp 8
  refine skip_ (w1 := ?_) (by rfl) rfl ?_ ?_
  rotate_left
  · go_simp
    rfl
  refine hK.out _ _ ((cell_far (p := ⟨gp, _, none⟩) hne _).trans hHeld) (fun hHeld => ?_)
  clear hK K
  refine done_ (by kernel_rfl) ?_
  try go_wp2
  first | (go_end0; exact ⟨rfl, 1, rfl⟩) | exact ⟨rfl, rfl, 1, rfl⟩ | exact ⟨_, rfl, rfl, 1, rfl⟩
end Go.Proofs.Ytpgffmnbdggpnaa.PCv
end
