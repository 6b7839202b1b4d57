/- A halved window whose last loss was none. -/
import Derived.Deep.DeepMust
import Derived.Test.YtpgffmnbdggpnaaCtlF
namespace Go.Proofs.Ytpgffmnbdggpnaa.PCtl
open Go.RowKit Go.Proofs.YtpgffmnbdggpnaaW.PrintWords Go.Proofs.YtpgffmnbdggpnaaW.PrintLast Go.Proofs.YtpgffmnbdggpnaaW.PrintMore
set_option linter.unusedVariables false
set_option linter.unusedSimpArgs false
set_option maxRecDepth 100000 in
set_option maxHeartbeats 4000000 in
theorem undo1_0 (c1 c2 c3 c4 c5 c6 c7 c8 c9 c10 c11 c12 c13 c14 c16 c17 c18 c19 c20 c22 c23 c24 c25 c26 c27 c28 c29 c30 c31 c32 c33 c34 c35 c36 c37 c39 c40 : Int) (c15 c38 : Bool) (A21 : Option Addr) (n21 k21 : Nat)  (w : World) :
    Calls Try.prog 18 #[.agg #[.int .i64 1, .int .u64 c1, .int .u64 c2, .int .u64 c3, .int .u64 c4, .int .i64 c5, .int .u64 c6, .int .u64 c7, .int .u64 c8, .int .u64 c9, .int .u64 c10, .int .u64 c11, .int .u64 c12, .int .u64 c13, .int .u64 c14, .bool c15, .int .u64 c16, .int .u64 c17, .int .u64 c18, .int .u64 c19, .int .i64 c20, .slice A21 n21 k21, .int .u64 c22, .int .u64 c23, .int .u64 c24, .int .u64 c25, .int .u64 c26, .int .u64 c27, .int .u64 c28, .int .u64 c29, .int .u64 c30, .int .u64 c31, .int .u64 c32, .int .u64 c33, .int .u64 c34, .int .u64 c35, .int .u64 c36, .int .u64 c37, .bool c38, .int .u64 c39, .int .u64 c40]] w fun e w' => e = .returned (.agg #[.int .i64 1, .int .u64 (uHeld (max c1 c39)), .int .u64 (uHeld (max c2 c40)), .int .u64 0, .int .u64 c4, .int .i64 c5, .int .u64 c6, .int .u64 c7, .int .u64 c8, .int .u64 c9, .int .u64 c10, .int .u64 c11, .int .u64 c12, .int .u64 c13, .int .u64 c14, .bool c15, .int .u64 c16, .int .u64 c17, .int .u64 c18, .int .u64 c19, .int .i64 c20, .slice A21 n21 k21, .int .u64 c22, .int .u64 c23, .int .u64 c24, .int .u64 c25, .int .u64 c26, .int .u64 c27, .int .u64 c28, .int .u64 c29, .int .u64 c30, .int .u64 c31, .int .u64 c32, .int .u64 c33, .int .u64 c34, .int .u64 c35, .int .u64 c36, .int .u64 c37, .bool c38, .int .u64 0, .int .u64 0]) ∧ Below w.heap.size w w' := by
  have hu36 := Try.underlying36
  have HS := Since.refl w
  go_enter Try.func18, Try.ntmps18
  go_wp2_with (first | ((with_reducible refine gate_dst (N := 1) rfl ?_); go_must (refine seg_new ?hg (N := 1) ?hd [.int .i64 1, .int .u64 c1, .int .u64 c2, .int .u64 c3, .int .u64 c4, .int .i64 c5, .int .u64 c6, .int .u64 c7, .int .u64 c8, .int .u64 c9, .int .u64 c10, .int .u64 c11, .int .u64 c12, .int .u64 c13, .int .u64 c14, .bool c15, .int .u64 c16, .int .u64 c17, .int .u64 c18, .int .u64 c19, .int .i64 c20, .slice A21 n21 k21, .int .u64 c22, .int .u64 c23, .int .u64 c24, .int .u64 c25, .int .u64 c26, .int .u64 c27, .int .u64 c28, .int .u64 c29, .int .u64 c30, .int .u64 c31, .int .u64 c32, .int .u64 c33, .int .u64 c34, .int .u64 c35, .int .u64 c36, .int .u64 c37, .bool c38, .int .u64 c39, .int .u64 c40] 36 ?hr ?_; (case hd => rfl); (case hg => rfl); (case hr => first | (go_simp; done) | (go_simp; rfl) | kernel_rfl); intro g0 hg w1 hn hl; have GEg0 := ge_new HS hg; clear hg; replace HS := HS.below hl; have Bg0 := hn; clear hl hn; have kg0_0 : w1.cell? ⟨g0, 0, none⟩ = some (.int .i64 1) := (Bg0.cell 0).trans rfl; have kg0_1 : w1.cell? ⟨g0, 1, none⟩ = some (.int .u64 c1) := (Bg0.cell 1).trans rfl; have kg0_2 : w1.cell? ⟨g0, 2, none⟩ = some (.int .u64 c2) := (Bg0.cell 2).trans rfl; have kg0_3 : w1.cell? ⟨g0, 3, none⟩ = some (.int .u64 c3) := (Bg0.cell 3).trans rfl; have kg0_39 : w1.cell? ⟨g0, 39, none⟩ = some (.int .u64 c39) := (Bg0.cell 39).trans rfl; have kg0_40 : w1.cell? ⟨g0, 40, none⟩ = some (.int .u64 c40) := (Bg0.cell 40).trans rfl; have zg0_0 := Bg0.frozen 0; have zg0_1 := Bg0.frozen 1; have zg0_2 := Bg0.frozen 2; have zg0_3 := Bg0.frozen 3; have zg0_39 := Bg0.frozen 39; have zg0_40 := Bg0.frozen 40)) | ((with_reducible refine gate_dst (N := 2) rfl ?_); go_must (refine seg_new ?hg (N := 2) ?hd [.int .i64 0, .int .u64 0, .int .u64 0, .int .u64 0, .int .u64 0, .int .i64 0, .int .u64 0, .int .u64 0, .int .u64 0, .int .u64 0, .int .u64 0, .int .u64 0, .int .u64 0, .int .u64 0, .int .u64 0, .bool false, .int .u64 0, .int .u64 0, .int .u64 0, .int .u64 0, .int .i64 0, .slice none 0 0, .int .u64 0, .int .u64 0, .int .u64 0, .int .u64 0, .int .u64 0, .int .u64 0, .int .u64 0, .int .u64 0, .int .u64 0, .int .u64 0, .int .u64 0, .int .u64 0, .int .u64 0, .int .u64 0, .int .u64 0, .int .u64 0, .bool false, .int .u64 0, .int .u64 0] 36 ?hr ?_; (case hd => rfl); (case hg => rfl); (case hr => first | (go_simp; done) | (go_simp; rfl) | kernel_rfl); intro g1 hg w2 hn hl; have Ng1_g0 := ne_new Bg0 hg; have GEg1 := ge_new HS hg; clear hg; replace Bg0 := Bg0.below hl; replace HS := HS.below hl; have Bg1 := hn; clear hl hn; clear kg0_0 kg0_1 kg0_2 kg0_3 kg0_39 kg0_40 zg0_0 zg0_1 zg0_2 zg0_3 zg0_39 zg0_40; have kg0_0 : w2.cell? ⟨g0, 0, none⟩ = some (.int .i64 1) := (Bg0.cell 0).trans rfl; have kg0_1 : w2.cell? ⟨g0, 1, none⟩ = some (.int .u64 c1) := (Bg0.cell 1).trans rfl; have kg0_2 : w2.cell? ⟨g0, 2, none⟩ = some (.int .u64 c2) := (Bg0.cell 2).trans rfl; have kg0_3 : w2.cell? ⟨g0, 3, none⟩ = some (.int .u64 c3) := (Bg0.cell 3).trans rfl; have kg0_39 : w2.cell? ⟨g0, 39, none⟩ = some (.int .u64 c39) := (Bg0.cell 39).trans rfl; have kg0_40 : w2.cell? ⟨g0, 40, none⟩ = some (.int .u64 c40) := (Bg0.cell 40).trans rfl; have zg0_0 := Bg0.frozen 0; have zg0_1 := Bg0.frozen 1; have zg0_2 := Bg0.frozen 2; have zg0_3 := Bg0.frozen 3; have zg0_39 := Bg0.frozen 39; have zg0_40 := Bg0.frozen 40)) | ((go_at_call 36); (with_reducible refine (parts_reno g0 _ ((Bg0.cell 0).trans rfl)).mono ?_); rintro e w3 ⟨rfl, hd⟩; have hl := hd.below; clear hd; replace Bg0 := Bg0.below hl; replace Bg1 := Bg1.below hl; replace HS := HS.below hl; clear hl; clear kg0_0 kg0_1 kg0_2 kg0_3 kg0_39 kg0_40 zg0_0 zg0_1 zg0_2 zg0_3 zg0_39 zg0_40; have kg0_0 : w3.cell? ⟨g0, 0, none⟩ = some (.int .i64 1) := (Bg0.cell 0).trans rfl; have kg0_1 : w3.cell? ⟨g0, 1, none⟩ = some (.int .u64 c1) := (Bg0.cell 1).trans rfl; have kg0_2 : w3.cell? ⟨g0, 2, none⟩ = some (.int .u64 c2) := (Bg0.cell 2).trans rfl; have kg0_3 : w3.cell? ⟨g0, 3, none⟩ = some (.int .u64 c3) := (Bg0.cell 3).trans rfl; have kg0_39 : w3.cell? ⟨g0, 39, none⟩ = some (.int .u64 c39) := (Bg0.cell 39).trans rfl; have kg0_40 : w3.cell? ⟨g0, 40, none⟩ = some (.int .u64 c40) := (Bg0.cell 40).trans rfl; have zg0_0 := Bg0.frozen 0; have zg0_1 := Bg0.frozen 1; have zg0_2 := Bg0.frozen 2; have zg0_3 := Bg0.frozen 3; have zg0_39 := Bg0.frozen 39; have zg0_40 := Bg0.frozen 40))
  refine start_ (n := 23) (S := fun w' => w'.cell? ⟨g0, 1, none⟩ = some (.int .u64 c1) ∧ w'.cell? ⟨g0, 39, none⟩ = some (.int .u64 c39) ∧ w'.cell? ⟨g0, 2, none⟩ = some (.int .u64 c2) ∧ w'.cell? ⟨g0, 40, none⟩ = some (.int .u64 c40)) (ds := [18, 20, 22]) #[false, false, false, false, false, false, false, false, false, false, false, false, false, false, false, false, false, false, false, false, false, false, false] (by kernel_rfl) rfl rfl ⟨((Bg0.drew.cell 1).trans rfl), ((Bg0.drew.cell 39).trans rfl), ((Bg0.drew.cell 2).trans rfl), ((Bg0.drew.cell 40).trans rfl)⟩ (fun hHeld => ?_)
  generalize hWd : World.drew w3 = w4 at hHeld ⊢
  have hl : Below w3.heap.size w3 w4 := (by rw [← hWd]; exact below_drew1 (Below.refl _ _))
  clear hWd
  replace Bg0 := Bg0.below hl; replace Bg1 := Bg1.below hl; replace HS := HS.below hl; clear hl; clear kg0_0 kg0_1 kg0_2 kg0_3 kg0_39 kg0_40 zg0_0 zg0_1 zg0_2 zg0_3 zg0_39 zg0_40; have kg0_0 : w4.cell? ⟨g0, 0, none⟩ = some (.int .i64 1) := (Bg0.cell 0).trans rfl; have kg0_1 : w4.cell? ⟨g0, 1, none⟩ = some (.int .u64 c1) := (Bg0.cell 1).trans rfl; have kg0_2 : w4.cell? ⟨g0, 2, none⟩ = some (.int .u64 c2) := (Bg0.cell 2).trans rfl; have kg0_3 : w4.cell? ⟨g0, 3, none⟩ = some (.int .u64 c3) := (Bg0.cell 3).trans rfl; have kg0_39 : w4.cell? ⟨g0, 39, none⟩ = some (.int .u64 c39) := (Bg0.cell 39).trans rfl; have kg0_40 : w4.cell? ⟨g0, 40, none⟩ = some (.int .u64 c40) := (Bg0.cell 40).trans rfl; have zg0_0 := Bg0.frozen 0; have zg0_1 := Bg0.frozen 1; have zg0_2 := Bg0.frozen 2; have zg0_3 := Bg0.frozen 3; have zg0_39 := Bg0.frozen 39; have zg0_40 := Bg0.frozen 40
  refine pure_ (i := 0) (N := some 22) (v := ?_) (a' := ?_) #[true, false, false, false, false, false, false, false, false, false, false, false, false, false, false, false, false, false, false, false, false, false, false] rfl rfl (by kernel_rfl) (fun _ _ _ h => h) (Or.inl ⟨by rfl, ?_⟩) ?_ ?_
  rotate_left
  · intro w'
    go_simp
    with_reducible rfl
  rotate_left
  · simp only [Act.put, List.setIfInBounds_toArray, List.set_cons_zero, List.set_cons_succ, i64_w, i32_w]
    rfl
  refine pure_ (i := 1) (N := some 23) (v := ?_) (a' := ?_) #[true, true, false, false, false, false, false, false, false, false, false, false, false, false, false, false, false, false, false, false, false, false, false] rfl rfl (by kernel_rfl) (fun _ _ _ h => h) (Or.inl ⟨by rfl, ?_⟩) ?_ ?_
  rotate_left
  · intro w'
    go_simp
    with_reducible rfl
  rotate_left
  · simp only [Act.put, List.setIfInBounds_toArray, List.set_cons_zero, List.set_cons_succ, i64_w, i32_w]
    rfl
  refine pure_ (i := 2) (N := some 24) (v := ?_) (a' := ?_) #[true, true, true, false, false, false, false, false, false, false, false, false, false, false, false, false, false, false, false, false, false, false, false] rfl rfl (by kernel_rfl) (fun _ _ _ h => h) (Or.inl ⟨by rfl, ?_⟩) ?_ ?_
  rotate_left
  · intro w'
    go_simp
    with_reducible rfl
  rotate_left
  · simp only [Act.put, List.setIfInBounds_toArray, List.set_cons_zero, List.set_cons_succ, i64_w, i32_w]
    rfl
  refine pure_ (i := 3) (N := some 25) (v := ?_) (a' := ?_) #[true, true, true, true, false, false, false, false, false, false, false, false, false, false, false, false, false, false, false, false, false, false, false] rfl rfl (by kernel_rfl) (fun _ _ _ h => h) (Or.inl ⟨by rfl, ?_⟩) ?_ ?_
  rotate_left
  · intro w'
    go_simp
    with_reducible rfl
  rotate_left
  · simp only [Act.put, List.setIfInBounds_toArray, List.set_cons_zero, List.set_cons_succ, i64_w, i32_w]
    rfl
  refine pure_ (i := 4) (N := some 26) (v := ?_) (a' := ?_) #[true, true, true, true, true, false, false, false, false, false, false, false, false, false, false, false, false, false, false, false, false, false, false] rfl rfl (by kernel_rfl) (fun _ _ _ h => h) (Or.inl ⟨by rfl, ?_⟩) ?_ ?_
  rotate_left
  · intro w'
    go_simp
    with_reducible rfl
  rotate_left
  · simp only [Act.put, List.setIfInBounds_toArray, List.set_cons_zero, List.set_cons_succ, i64_w, i32_w]
    rfl
  refine pure_ (i := 6) (N := some 28) (v := ?_) (a' := ?_) #[true, true, true, true, true, false, true, false, false, false, false, false, false, false, false, false, false, false, false, false, false, false, false] rfl rfl (by kernel_rfl) (fun _ _ _ h => h) (Or.inl ⟨by rfl, ?_⟩) ?_ ?_
  rotate_left
  · intro w'
    go_simp
    with_reducible rfl
  rotate_left
  · simp only [Act.put, List.setIfInBounds_toArray, List.set_cons_zero, List.set_cons_succ, i64_w, i32_w]
    rfl
  refine pure_ (i := 10) (N := some 32) (v := ?_) (a' := ?_) #[true, true, true, true, true, false, true, false, false, false, true, false, false, false, false, false, false, false, false, false, false, false, false] rfl rfl (by kernel_rfl) (fun _ _ _ h => h) (Or.inl ⟨by rfl, ?_⟩) ?_ ?_
  rotate_left
  · intro w'
    go_simp
    with_reducible rfl
  rotate_left
  · simp only [Act.put, List.setIfInBounds_toArray, List.set_cons_zero, List.set_cons_succ, i64_w, i32_w]
    rfl
  refine pure_ (i := 11) (N := some 33) (v := ?_) (a' := ?_) #[true, true, true, true, true, false, true, false, false, false, true, true, false, false, false, false, false, false, false, false, false, false, false] rfl rfl (by kernel_rfl) (fun _ _ _ h => h) (Or.inl ⟨by rfl, ?_⟩) ?_ ?_
  rotate_left
  · intro w'
    go_simp
    with_reducible rfl
  rotate_left
  · simp only [Act.put, List.setIfInBounds_toArray, List.set_cons_zero, List.set_cons_succ, i64_w, i32_w]
    rfl
  refine pure_ (i := 13) (N := some 35) (v := ?_) (a' := ?_) #[true, true, true, true, true, false, true, false, false, false, true, true, false, true, false, false, false, false, false, false, false, false, false] rfl rfl (by kernel_rfl) (fun _ _ _ h => h) (Or.inl ⟨by rfl, ?_⟩) ?_ ?_
  rotate_left
  · intro w'
    go_simp
    with_reducible rfl
  rotate_left
  · simp only [Act.put, List.setIfInBounds_toArray, List.set_cons_zero, List.set_cons_succ, i64_w, i32_w]
    rfl
  refine take_ (i := 5) (N := some 27) (v := ?_) (a' := ?_) #[true, true, true, true, true, true, true, false, false, false, true, true, false, true, false, false, false, false, false, false, false, false, false] rfl rfl (by kernel_rfl) (fun _ _ _ h => h) (Or.inl ⟨by rfl, ?_⟩) hHeld ?_ ?_
  rotate_left
  · rintro w' ⟨s0, s1, s2, s3⟩
    go_simp
    with_reducible rfl
  rotate_left
  · simp only [Act.put, List.setIfInBounds_toArray, List.set_cons_zero, List.set_cons_succ, i64_w, i32_w]
    rfl
  refine take_ (i := 7) (N := some 29) (v := ?_) (a' := ?_) #[true, true, true, true, true, true, true, true, false, false, true, true, false, true, false, false, false, false, false, false, false, false, false] rfl rfl (by kernel_rfl) (fun _ _ _ h => h) (Or.inl ⟨by rfl, ?_⟩) hHeld ?_ ?_
  rotate_left
  · rintro w' ⟨s0, s1, s2, s3⟩
    go_simp
    with_reducible rfl
  rotate_left
  · simp only [Act.put, List.setIfInBounds_toArray, List.set_cons_zero, List.set_cons_succ, i64_w, i32_w]
    rfl
  refine pure_ (i := 8) (N := some 30) (v := ?_) (a' := ?_) #[true, true, true, true, true, true, true, true, true, false, true, true, false, true, false, false, false, false, false, false, false, false, false] rfl rfl (by kernel_rfl) (fun _ _ _ h => h) (Or.inl ⟨by rfl, ?_⟩) ?_ ?_
  rotate_left
  · intro w'
    go_simp
    with_reducible rfl
  rotate_left
  · simp only [Act.put, List.setIfInBounds_toArray, List.set_cons_zero, List.set_cons_succ, i64_w, i32_w]
    rfl
  refine take_ (i := 12) (N := some 34) (v := ?_) (a' := ?_) #[true, true, true, true, true, true, true, true, true, false, true, true, true, true, false, false, false, false, false, false, false, false, false] rfl rfl (by kernel_rfl) (fun _ _ _ h => h) (Or.inl ⟨by rfl, ?_⟩) hHeld ?_ ?_
  rotate_left
  · rintro w' ⟨s0, s1, s2, s3⟩
    go_simp
    with_reducible rfl
  rotate_left
  · simp only [Act.put, List.setIfInBounds_toArray, List.set_cons_zero, List.set_cons_succ, i64_w, i32_w]
    rfl
  refine take_ (i := 14) (N := some 36) (v := ?_) (a' := ?_) #[true, true, true, true, true, true, true, true, true, false, true, true, true, true, true, false, false, false, false, false, false, false, false] rfl rfl (by kernel_rfl) (fun _ _ _ h => h) (Or.inl ⟨by rfl, ?_⟩) hHeld ?_ ?_
  rotate_left
  · rintro w' ⟨s0, s1, s2, s3⟩
    go_simp
    with_reducible rfl
  rotate_left
  · simp only [Act.put, List.setIfInBounds_toArray, List.set_cons_zero, List.set_cons_succ, i64_w, i32_w]
    rfl
  refine pure_ (i := 15) (N := some 37) (v := ?_) (a' := ?_) #[true, true, true, true, true, true, true, true, true, false, true, true, true, true, true, true, false, false, false, false, false, false, false] rfl rfl (by kernel_rfl) (fun _ _ _ h => h) (Or.inl ⟨by rfl, ?_⟩) ?_ ?_
  rotate_left
  · intro w'
    go_simp
    with_reducible rfl
  rotate_left
  · simp only [Act.put, List.setIfInBounds_toArray, List.set_cons_zero, List.set_cons_succ, i64_w, i32_w]
    rfl
  refine one_ (i := 9) (N := some 31) #[true, true, true, true, true, true, true, true, true, true, true, true, true, true, true, true, false, false, false, false, false, false, false] rfl rfl (by kernel_rfl) (by decide) (fun K hK => ?_)
  refine goes_ Try.func24 (by kernel_rfl) rfl #[.int .u64 (max c1 c39)] (by rfl) rfl rfl (by simp only [List.map_toArray, List.map_cons, List.map_nil]; rfl) ?_
  with_reducible refine (reno_Held.C (max c1 c39) _).mono ?_
  rintro e w5 ⟨rfl, hd⟩
  refine ⟨_, rfl, ?_⟩
  have hl := hd.below
  clear hd
  replace Bg0 := Bg0.below hl; replace Bg1 := Bg1.below hl; replace HS := HS.below hl; clear hl; clear kg0_0 kg0_1 kg0_2 kg0_3 kg0_39 kg0_40 zg0_0 zg0_1 zg0_2 zg0_3 zg0_39 zg0_40; have kg0_0 : w5.cell? ⟨g0, 0, none⟩ = some (.int .i64 1) := (Bg0.cell 0).trans rfl; have kg0_1 : w5.cell? ⟨g0, 1, none⟩ = some (.int .u64 c1) := (Bg0.cell 1).trans rfl; have kg0_2 : w5.cell? ⟨g0, 2, none⟩ = some (.int .u64 c2) := (Bg0.cell 2).trans rfl; have kg0_3 : w5.cell? ⟨g0, 3, none⟩ = some (.int .u64 c3) := (Bg0.cell 3).trans rfl; have kg0_39 : w5.cell? ⟨g0, 39, none⟩ = some (.int .u64 c39) := (Bg0.cell 39).trans rfl; have kg0_40 : w5.cell? ⟨g0, 40, none⟩ = some (.int .u64 c40) := (Bg0.cell 40).trans rfl; have zg0_0 := Bg0.frozen 0; have zg0_1 := Bg0.frozen 1; have zg0_2 := Bg0.frozen 2; have zg0_3 := Bg0.frozen 3; have zg0_39 := Bg0.frozen 39; have zg0_40 := Bg0.frozen 40
  refine hK.out _ _ ⟨((Bg0.cell 1).trans rfl), ((Bg0.cell 39).trans rfl), ((Bg0.cell 2).trans rfl), ((Bg0.cell 40).trans rfl)⟩ (fun hHeld => ?_)
  clear hK K
  refine norm_ (a' := ?_) ?_ ?_
  rotate_left
  · show Act.put _ (some 31) _ = _
    simp only [Act.put, List.setIfInBounds_toArray, List.set_cons_zero, List.set_cons_succ, i64_w, i32_w]
    rfl
  refine one_ (i := 16) (N := some 38) #[true, true, true, true, true, true, true, true, true, true, true, true, true, true, true, true, true, false, false, false, false, false, false] rfl rfl (by kernel_rfl) (by decide) (fun K hK => ?_)
  refine goes_ Try.func24 (by kernel_rfl) rfl #[.int .u64 (max c2 c40)] (by rfl) rfl rfl (by simp only [List.map_toArray, List.map_cons, List.map_nil]; rfl) ?_
  with_reducible refine (reno_Held.C (max c2 c40) _).mono ?_
  rintro e w6 ⟨rfl, hd⟩
  refine ⟨_, rfl, ?_⟩
  have hl := hd.below
  clear hd
  replace Bg0 := Bg0.below hl; replace Bg1 := Bg1.below hl; replace HS := HS.below hl; clear hl; clear kg0_0 kg0_1 kg0_2 kg0_3 kg0_39 kg0_40 zg0_0 zg0_1 zg0_2 zg0_3 zg0_39 zg0_40; have kg0_0 : w6.cell? ⟨g0, 0, none⟩ = some (.int .i64 1) := (Bg0.cell 0).trans rfl; have kg0_1 : w6.cell? ⟨g0, 1, none⟩ = some (.int .u64 c1) := (Bg0.cell 1).trans rfl; have kg0_2 : w6.cell? ⟨g0, 2, none⟩ = some (.int .u64 c2) := (Bg0.cell 2).trans rfl; have kg0_3 : w6.cell? ⟨g0, 3, none⟩ = some (.int .u64 c3) := (Bg0.cell 3).trans rfl; have kg0_39 : w6.cell? ⟨g0, 39, none⟩ = some (.int .u64 c39) := (Bg0.cell 39).trans rfl; have kg0_40 : w6.cell? ⟨g0, 40, none⟩ = some (.int .u64 c40) := (Bg0.cell 40).trans rfl; have zg0_0 := Bg0.frozen 0; have zg0_1 := Bg0.frozen 1; have zg0_2 := Bg0.frozen 2; have zg0_3 := Bg0.frozen 3; have zg0_39 := Bg0.frozen 39; have zg0_40 := Bg0.frozen 40
  refine hK.out _ _ ⟨((Bg0.cell 1).trans rfl), ((Bg0.cell 39).trans rfl), ((Bg0.cell 2).trans rfl), ((Bg0.cell 40).trans rfl)⟩ (fun hHeld => ?_)
  clear hK K
  refine norm_ (a' := ?_) ?_ ?_
  rotate_left
  · show Act.put _ (some 38) _ = _
    simp only [Act.put, List.setIfInBounds_toArray, List.set_cons_zero, List.set_cons_succ, i64_w, i32_w]
    rfl
  refine pure_ (i := 17) (N := some 39) (v := ?_) (a' := ?_) #[true, true, true, true, true, true, true, true, true, true, true, true, true, true, true, true, true, true, false, false, false, false, false] rfl rfl (by kernel_rfl) (fun _ _ _ h => h) (Or.inl ⟨by rfl, ?_⟩) ?_ ?_
  rotate_left
  · intro w'
    go_simp
    with_reducible rfl
  rotate_left
  · simp only [Act.put, List.setIfInBounds_toArray, List.set_cons_zero, List.set_cons_succ, i64_w, i32_w]
    rfl
  refine last_ (i := 18) (N := none) #[true, true, true, true, true, true, true, true, true, true, true, true, true, true, true, true, true, true, true, false, false, false, false] rfl rfl (by kernel_rfl) (by decide) (fun K hK => ?_)
  refine skip_ (w1 := ?_) (by rfl) rfl ?_ ?_
  rotate_left
  · go_simp
    rfl
  refine hK.out _ _ ?_
  clear hK K
  refine pure_ (i := 19) (N := some 40) (v := ?_) (a' := ?_) #[true, true, true, true, true, true, true, true, true, true, true, true, true, true, true, true, true, true, true, true, false, false, false] rfl rfl (by kernel_rfl) (fun _ _ _ h => h) (Or.inl ⟨by rfl, ?_⟩) ?_ ?_
  rotate_left
  · intro w'
    go_simp
    with_reducible rfl
  rotate_left
  · simp only [Act.put, List.setIfInBounds_toArray, List.set_cons_zero, List.set_cons_succ, i64_w, i32_w]
    rfl
  refine last_ (i := 20) (N := none) #[true, true, true, true, true, true, true, true, true, true, true, true, true, true, true, true, true, true, true, true, true, false, false] rfl rfl (by kernel_rfl) (by decide) (fun K hK => ?_)
  refine skip_ (w1 := ?_) (by rfl) rfl ?_ ?_
  rotate_left
  · go_simp
    rfl
  refine hK.out _ _ ?_
  clear hK K
  refine pure_ (i := 21) (N := some 41) (v := ?_) (a' := ?_) #[true, true, true, true, true, true, true, true, true, true, true, true, true, true, true, true, true, true, true, true, true, true, false] rfl rfl (by kernel_rfl) (fun _ _ _ h => h) (Or.inl ⟨by rfl, ?_⟩) ?_ ?_
  rotate_left
  · intro w'
    go_simp
    with_reducible rfl
  rotate_left
  · simp only [Act.put, List.setIfInBounds_toArray, List.set_cons_zero, List.set_cons_succ, i64_w, i32_w]
    rfl
  refine last_ (i := 22) (N := none) #[true, true, true, true, true, true, true, true, true, true, true, true, true, true, true, true, true, true, true, true, true, true, true] rfl rfl (by kernel_rfl) (by decide) (fun K hK => ?_)
  refine skip_ (w1 := ?_) (by rfl) rfl ?_ ?_
  rotate_left
  · go_simp
    rfl
  refine hK.out _ _ ?_
  clear hK K
  refine done_ (by kernel_rfl) ?_
  refine letter ?_
  intro w7 hW
  have Bn_ : Blk w7 g0 36 [.int .i64 1, .int .u64 (uHeld (max c1 c39)), .int .u64 (uHeld (max c2 c40)), .int .u64 0, .int .u64 c4, .int .i64 c5, .int .u64 c6, .int .u64 c7, .int .u64 c8, .int .u64 c9, .int .u64 c10, .int .u64 c11, .int .u64 c12, .int .u64 c13, .int .u64 c14, .bool c15, .int .u64 c16, .int .u64 c17, .int .u64 c18, .int .u64 c19, .int .i64 c20, .slice A21 n21 k21, .int .u64 c22, .int .u64 c23, .int .u64 c24, .int .u64 c25, .int .u64 c26, .int .u64 c27, .int .u64 c28, .int .u64 c29, .int .u64 c30, .int .u64 c31, .int .u64 c32, .int .u64 c33, .int .u64 c34, .int .u64 c35, .int .u64 c36, .int .u64 c37, .bool c38, .int .u64 c39, .int .u64 c40] := (by rw [hW]; (repeat (first | (with_reducible refine Blk.drewN ?_ _) | (with_reducible refine Blk.drew ?_))); refine Blk.set (l := [.int .i64 1, .int .u64 (uHeld (max c1 c39)), .int .u64 (uHeld (max c2 c40)), .int .u64 c3, .int .u64 c4, .int .i64 c5, .int .u64 c6, .int .u64 c7, .int .u64 c8, .int .u64 c9, .int .u64 c10, .int .u64 c11, .int .u64 c12, .int .u64 c13, .int .u64 c14, .bool c15, .int .u64 c16, .int .u64 c17, .int .u64 c18, .int .u64 c19, .int .i64 c20, .slice A21 n21 k21, .int .u64 c22, .int .u64 c23, .int .u64 c24, .int .u64 c25, .int .u64 c26, .int .u64 c27, .int .u64 c28, .int .u64 c29, .int .u64 c30, .int .u64 c31, .int .u64 c32, .int .u64 c33, .int .u64 c34, .int .u64 c35, .int .u64 c36, .int .u64 c37, .bool c38, .int .u64 c39, .int .u64 c40]) ?_ 3 _ rfl; (repeat (first | (with_reducible refine Blk.drewN ?_ _) | (with_reducible refine Blk.drew ?_))); refine Blk.set (l := [.int .i64 1, .int .u64 (uHeld (max c1 c39)), .int .u64 c2, .int .u64 c3, .int .u64 c4, .int .i64 c5, .int .u64 c6, .int .u64 c7, .int .u64 c8, .int .u64 c9, .int .u64 c10, .int .u64 c11, .int .u64 c12, .int .u64 c13, .int .u64 c14, .bool c15, .int .u64 c16, .int .u64 c17, .int .u64 c18, .int .u64 c19, .int .i64 c20, .slice A21 n21 k21, .int .u64 c22, .int .u64 c23, .int .u64 c24, .int .u64 c25, .int .u64 c26, .int .u64 c27, .int .u64 c28, .int .u64 c29, .int .u64 c30, .int .u64 c31, .int .u64 c32, .int .u64 c33, .int .u64 c34, .int .u64 c35, .int .u64 c36, .int .u64 c37, .bool c38, .int .u64 c39, .int .u64 c40]) ?_ 2 _ rfl; (repeat (first | (with_reducible refine Blk.drewN ?_ _) | (with_reducible refine Blk.drew ?_))); refine Blk.set (l := [.int .i64 1, .int .u64 c1, .int .u64 c2, .int .u64 c3, .int .u64 c4, .int .i64 c5, .int .u64 c6, .int .u64 c7, .int .u64 c8, .int .u64 c9, .int .u64 c10, .int .u64 c11, .int .u64 c12, .int .u64 c13, .int .u64 c14, .bool c15, .int .u64 c16, .int .u64 c17, .int .u64 c18, .int .u64 c19, .int .i64 c20, .slice A21 n21 k21, .int .u64 c22, .int .u64 c23, .int .u64 c24, .int .u64 c25, .int .u64 c26, .int .u64 c27, .int .u64 c28, .int .u64 c29, .int .u64 c30, .int .u64 c31, .int .u64 c32, .int .u64 c33, .int .u64 c34, .int .u64 c35, .int .u64 c36, .int .u64 c37, .bool c38, .int .u64 c39, .int .u64 c40]) ?_ 1 _ rfl; (repeat (first | (with_reducible refine Blk.drewN ?_ _) | (with_reducible refine Blk.drew ?_))); exact Bg0)
  replace Bg0 := Bn_
  clear Bn_
  have Bn_ : Blk w7 g1 36 [.int .i64 0, .int .u64 0, .int .u64 0, .int .u64 0, .int .u64 0, .int .i64 0, .int .u64 0, .int .u64 0, .int .u64 0, .int .u64 0, .int .u64 0, .int .u64 0, .int .u64 0, .int .u64 0, .int .u64 0, .bool false, .int .u64 0, .int .u64 0, .int .u64 0, .int .u64 0, .int .i64 0, .slice none 0 0, .int .u64 0, .int .u64 0, .int .u64 0, .int .u64 0, .int .u64 0, .int .u64 0, .int .u64 0, .int .u64 0, .int .u64 0, .int .u64 0, .int .u64 0, .int .u64 0, .int .u64 0, .int .u64 0, .int .u64 0, .int .u64 0, .bool false, .int .u64 0, .int .u64 0] := (by rw [hW]; (repeat (first | (with_reducible refine Blk.drewN ?_ _) | (with_reducible refine Blk.drew ?_))); refine Blk.setFar ?_ Ng1_g0; (repeat (first | (with_reducible refine Blk.drewN ?_ _) | (with_reducible refine Blk.drew ?_))); refine Blk.setFar ?_ Ng1_g0; (repeat (first | (with_reducible refine Blk.drewN ?_ _) | (with_reducible refine Blk.drew ?_))); refine Blk.setFar ?_ Ng1_g0; (repeat (first | (with_reducible refine Blk.drewN ?_ _) | (with_reducible refine Blk.drew ?_))); exact Bg1)
  replace Bg1 := Bn_
  clear Bn_
  have HS_ : Since w w7 := (by rw [hW]; repeat (first | (with_reducible exact HS) | (with_reducible refine Since.drewN ?_ _) | (with_reducible refine Since.drew ?_) | (with_reducible refine Since.set ?_ GEg0)))
  replace HS := HS_
  clear HS_ hW
  clear kg0_0 kg0_1 kg0_2 kg0_3 kg0_39 kg0_40 zg0_0 zg0_1 zg0_2 zg0_3 zg0_39 zg0_40; have kg0_0 : w7.cell? ⟨g0, 0, none⟩ = some (.int .i64 1) := (Bg0.cell 0).trans rfl; have kg0_1 : w7.cell? ⟨g0, 1, none⟩ = some (.int .u64 (uHeld (max c1 c39))) := (Bg0.cell 1).trans rfl; have kg0_2 : w7.cell? ⟨g0, 2, none⟩ = some (.int .u64 (uHeld (max c2 c40))) := (Bg0.cell 2).trans rfl; have kg0_3 : w7.cell? ⟨g0, 3, none⟩ = some (.int .u64 0) := (Bg0.cell 3).trans rfl; have kg0_39 : w7.cell? ⟨g0, 39, none⟩ = some (.int .u64 c39) := (Bg0.cell 39).trans rfl; have kg0_40 : w7.cell? ⟨g0, 40, none⟩ = some (.int .u64 c40) := (Bg0.cell 40).trans rfl; have zg0_0 := Bg0.frozen 0; have zg0_1 := Bg0.frozen 1; have zg0_2 := Bg0.frozen 2; have zg0_3 := Bg0.frozen 3; have zg0_39 := Bg0.frozen 39; have zg0_40 := Bg0.frozen 40
  go_wp2_with (first | ((with_reducible refine gate_ (.store 23 (.tmp 42) (.const (.int .u64 0))) rfl ?_); go_must (refine seg_store ?hg ?hN 23 (.tmp 42) (.const (.int .u64 0)) ?ho g0 39 [.int .u64 0] [.int .i64 1, .int .u64 (uHeld (max c1 c39)), .int .u64 (uHeld (max c2 c40)), .int .u64 0, .int .u64 c4, .int .i64 c5, .int .u64 c6, .int .u64 c7, .int .u64 c8, .int .u64 c9, .int .u64 c10, .int .u64 c11, .int .u64 c12, .int .u64 c13, .int .u64 c14, .bool c15, .int .u64 c16, .int .u64 c17, .int .u64 c18, .int .u64 c19, .int .i64 c20, .slice A21 n21 k21, .int .u64 c22, .int .u64 c23, .int .u64 c24, .int .u64 c25, .int .u64 c26, .int .u64 c27, .int .u64 c28, .int .u64 c29, .int .u64 c30, .int .u64 c31, .int .u64 c32, .int .u64 c33, .int .u64 c34, .int .u64 c35, .int .u64 c36, .int .u64 c37, .bool c38, .int .u64 0, .int .u64 c40] (.int .u64 0) ?hx ?hy ?hu Bg0 ?hi ?hf ?h1 ?hl ?_; (case hg => rfl); (case hN => rfl); (case ho => rfl); (case hx => first | rfl | (go_simp; done) | (go_simp; rfl)); (case hy => first | rfl | (go_simp; done) | (go_simp; rfl)); (case hu => rfl); (case hi => kernel_rfl); (case hf => exact Nat.le_of_ble_eq_true rfl); (case h1 => rfl); (case hl => rfl); intro w8 hn hw; replace Bg1 := Bg1.grown hw Ng1_g0; replace HS := HS.grown hw GEg0; replace Bg0 := hn; clear hw; clear kg0_0 kg0_1 kg0_2 kg0_3 kg0_39 kg0_40 zg0_0 zg0_1 zg0_2 zg0_3 zg0_39 zg0_40; have kg0_0 : w8.cell? ⟨g0, 0, none⟩ = some (.int .i64 1) := (Bg0.cell 0).trans rfl; have kg0_1 : w8.cell? ⟨g0, 1, none⟩ = some (.int .u64 (uHeld (max c1 c39))) := (Bg0.cell 1).trans rfl; have kg0_2 : w8.cell? ⟨g0, 2, none⟩ = some (.int .u64 (uHeld (max c2 c40))) := (Bg0.cell 2).trans rfl; have kg0_3 : w8.cell? ⟨g0, 3, none⟩ = some (.int .u64 0) := (Bg0.cell 3).trans rfl; have kg0_39 : w8.cell? ⟨g0, 39, none⟩ = some (.int .u64 0) := (Bg0.cell 39).trans rfl; have kg0_40 : w8.cell? ⟨g0, 40, none⟩ = some (.int .u64 c40) := (Bg0.cell 40).trans rfl; have zg0_0 := Bg0.frozen 0; have zg0_1 := Bg0.frozen 1; have zg0_2 := Bg0.frozen 2; have zg0_3 := Bg0.frozen 3; have zg0_39 := Bg0.frozen 39; have zg0_40 := Bg0.frozen 40; clear hn)) | ((with_reducible refine gate_ (.store 23 (.tmp 43) (.const (.int .u64 0))) rfl ?_); go_must (refine seg_store ?hg ?hN 23 (.tmp 43) (.const (.int .u64 0)) ?ho g0 40 [.int .u64 0] [.int .i64 1, .int .u64 (uHeld (max c1 c39)), .int .u64 (uHeld (max c2 c40)), .int .u64 0, .int .u64 c4, .int .i64 c5, .int .u64 c6, .int .u64 c7, .int .u64 c8, .int .u64 c9, .int .u64 c10, .int .u64 c11, .int .u64 c12, .int .u64 c13, .int .u64 c14, .bool c15, .int .u64 c16, .int .u64 c17, .int .u64 c18, .int .u64 c19, .int .i64 c20, .slice A21 n21 k21, .int .u64 c22, .int .u64 c23, .int .u64 c24, .int .u64 c25, .int .u64 c26, .int .u64 c27, .int .u64 c28, .int .u64 c29, .int .u64 c30, .int .u64 c31, .int .u64 c32, .int .u64 c33, .int .u64 c34, .int .u64 c35, .int .u64 c36, .int .u64 c37, .bool c38, .int .u64 0, .int .u64 0] (.int .u64 0) ?hx ?hy ?hu Bg0 ?hi ?hf ?h1 ?hl ?_; (case hg => rfl); (case hN => rfl); (case ho => rfl); (case hx => first | rfl | (go_simp; done) | (go_simp; rfl)); (case hy => first | rfl | (go_simp; done) | (go_simp; rfl)); (case hu => rfl); (case hi => kernel_rfl); (case hf => exact Nat.le_of_ble_eq_true rfl); (case h1 => rfl); (case hl => rfl); intro w9 hn hw; replace Bg1 := Bg1.grown hw Ng1_g0; replace HS := HS.grown hw GEg0; replace Bg0 := hn; clear hw; clear kg0_0 kg0_1 kg0_2 kg0_3 kg0_39 kg0_40 zg0_0 zg0_1 zg0_2 zg0_3 zg0_39 zg0_40; have kg0_0 : w9.cell? ⟨g0, 0, none⟩ = some (.int .i64 1) := (Bg0.cell 0).trans rfl; have kg0_1 : w9.cell? ⟨g0, 1, none⟩ = some (.int .u64 (uHeld (max c1 c39))) := (Bg0.cell 1).trans rfl; have kg0_2 : w9.cell? ⟨g0, 2, none⟩ = some (.int .u64 (uHeld (max c2 c40))) := (Bg0.cell 2).trans rfl; have kg0_3 : w9.cell? ⟨g0, 3, none⟩ = some (.int .u64 0) := (Bg0.cell 3).trans rfl; have kg0_39 : w9.cell? ⟨g0, 39, none⟩ = some (.int .u64 0) := (Bg0.cell 39).trans rfl; have kg0_40 : w9.cell? ⟨g0, 40, none⟩ = some (.int .u64 0) := (Bg0.cell 40).trans rfl; have zg0_0 := Bg0.frozen 0; have zg0_1 := Bg0.frozen 1; have zg0_2 := Bg0.frozen 2; have zg0_3 := Bg0.frozen 3; have zg0_39 := Bg0.frozen 39; have zg0_40 := Bg0.frozen 40; clear hn)) | ((with_reducible refine gate_dst (N := 44) rfl ?_); go_must (refine seg_load ?hg (N := 44) ?hd 36 (.tmp 1) ?ho g0 0 [.int .i64 1, .int .u64 (uHeld (max c1 c39)), .int .u64 (uHeld (max c2 c40)), .int .u64 0, .int .u64 c4, .int .i64 c5, .int .u64 c6, .int .u64 c7, .int .u64 c8, .int .u64 c9, .int .u64 c10, .int .u64 c11, .int .u64 c12, .int .u64 c13, .int .u64 c14, .bool c15, .int .u64 c16, .int .u64 c17, .int .u64 c18, .int .u64 c19, .int .i64 c20, .slice A21 n21 k21, .int .u64 c22, .int .u64 c23, .int .u64 c24, .int .u64 c25, .int .u64 c26, .int .u64 c27, .int .u64 c28, .int .u64 c29, .int .u64 c30, .int .u64 c31, .int .u64 c32, .int .u64 c33, .int .u64 c34, .int .u64 c35, .int .u64 c36, .int .u64 c37, .bool c38, .int .u64 0, .int .u64 0] ?hx Bg0 ?hs Try.underlying36 ?ht ?hi ?_; (case hg => rfl); (case hd => rfl); (case ho => rfl); (case hx => first | rfl | (go_simp; done) | (go_simp; rfl)); (case hs => rfl); (case ht => rfl); (case hi => kernel_rfl))) | ((with_reducible refine gate_ (.store 36 (.tmp 2) (.tmp 44)) rfl ?_); go_must (refine seg_store ?hg ?hN 36 (.tmp 2) (.tmp 44) ?ho g1 0 [.int .i64 1, .int .u64 (uHeld (max c1 c39)), .int .u64 (uHeld (max c2 c40)), .int .u64 0, .int .u64 c4, .int .i64 c5, .int .u64 c6, .int .u64 c7, .int .u64 c8, .int .u64 c9, .int .u64 c10, .int .u64 c11, .int .u64 c12, .int .u64 c13, .int .u64 c14, .bool c15, .int .u64 c16, .int .u64 c17, .int .u64 c18, .int .u64 c19, .int .i64 c20, .slice A21 n21 k21, .int .u64 c22, .int .u64 c23, .int .u64 c24, .int .u64 c25, .int .u64 c26, .int .u64 c27, .int .u64 c28, .int .u64 c29, .int .u64 c30, .int .u64 c31, .int .u64 c32, .int .u64 c33, .int .u64 c34, .int .u64 c35, .int .u64 c36, .int .u64 c37, .bool c38, .int .u64 0, .int .u64 0] [.int .i64 1, .int .u64 (uHeld (max c1 c39)), .int .u64 (uHeld (max c2 c40)), .int .u64 0, .int .u64 c4, .int .i64 c5, .int .u64 c6, .int .u64 c7, .int .u64 c8, .int .u64 c9, .int .u64 c10, .int .u64 c11, .int .u64 c12, .int .u64 c13, .int .u64 c14, .bool c15, .int .u64 c16, .int .u64 c17, .int .u64 c18, .int .u64 c19, .int .i64 c20, .slice A21 n21 k21, .int .u64 c22, .int .u64 c23, .int .u64 c24, .int .u64 c25, .int .u64 c26, .int .u64 c27, .int .u64 c28, .int .u64 c29, .int .u64 c30, .int .u64 c31, .int .u64 c32, .int .u64 c33, .int .u64 c34, .int .u64 c35, .int .u64 c36, .int .u64 c37, .bool c38, .int .u64 0, .int .u64 0] (.agg #[.int .i64 1, .int .u64 (uHeld (max c1 c39)), .int .u64 (uHeld (max c2 c40)), .int .u64 0, .int .u64 c4, .int .i64 c5, .int .u64 c6, .int .u64 c7, .int .u64 c8, .int .u64 c9, .int .u64 c10, .int .u64 c11, .int .u64 c12, .int .u64 c13, .int .u64 c14, .bool c15, .int .u64 c16, .int .u64 c17, .int .u64 c18, .int .u64 c19, .int .i64 c20, .slice A21 n21 k21, .int .u64 c22, .int .u64 c23, .int .u64 c24, .int .u64 c25, .int .u64 c26, .int .u64 c27, .int .u64 c28, .int .u64 c29, .int .u64 c30, .int .u64 c31, .int .u64 c32, .int .u64 c33, .int .u64 c34, .int .u64 c35, .int .u64 c36, .int .u64 c37, .bool c38, .int .u64 0, .int .u64 0]) ?hx ?hy ?hu Bg1 ?hi ?hf ?h1 ?hl ?_; (case hg => rfl); (case hN => rfl); (case ho => rfl); (case hx => first | rfl | (go_simp; done) | (go_simp; rfl)); (case hy => first | rfl | (go_simp; done) | (go_simp; rfl)); (case hu => rfl); (case hi => kernel_rfl); (case hf => exact Nat.le_of_ble_eq_true rfl); (case h1 => rfl); (case hl => rfl); intro w10 hn hw; replace Bg0 := Bg0.grown hw Ng1_g0.symm; replace HS := HS.grown hw GEg1; replace Bg1 := hn; clear hw; clear kg0_0 kg0_1 kg0_2 kg0_3 kg0_39 kg0_40 zg0_0 zg0_1 zg0_2 zg0_3 zg0_39 zg0_40; have kg0_0 : w10.cell? ⟨g0, 0, none⟩ = some (.int .i64 1) := (Bg0.cell 0).trans rfl; have kg0_1 : w10.cell? ⟨g0, 1, none⟩ = some (.int .u64 (uHeld (max c1 c39))) := (Bg0.cell 1).trans rfl; have kg0_2 : w10.cell? ⟨g0, 2, none⟩ = some (.int .u64 (uHeld (max c2 c40))) := (Bg0.cell 2).trans rfl; have kg0_3 : w10.cell? ⟨g0, 3, none⟩ = some (.int .u64 0) := (Bg0.cell 3).trans rfl; have kg0_39 : w10.cell? ⟨g0, 39, none⟩ = some (.int .u64 0) := (Bg0.cell 39).trans rfl; have kg0_40 : w10.cell? ⟨g0, 40, none⟩ = some (.int .u64 0) := (Bg0.cell 40).trans rfl; have zg0_0 := Bg0.frozen 0; have zg0_1 := Bg0.frozen 1; have zg0_2 := Bg0.frozen 2; have zg0_3 := Bg0.frozen 3; have zg0_39 := Bg0.frozen 39; have zg0_40 := Bg0.frozen 40; clear hn)))
  all_goals exact bodyPost_ret (results_cell1 rfl _ _ g1 36 [.int .i64 1, .int .u64 (uHeld (max c1 c39)), .int .u64 (uHeld (max c2 c40)), .int .u64 0, .int .u64 c4, .int .i64 c5, .int .u64 c6, .int .u64 c7, .int .u64 c8, .int .u64 c9, .int .u64 c10, .int .u64 c11, .int .u64 c12, .int .u64 c13, .int .u64 c14, .bool c15, .int .u64 c16, .int .u64 c17, .int .u64 c18, .int .u64 c19, .int .i64 c20, .slice A21 n21 k21, .int .u64 c22, .int .u64 c23, .int .u64 c24, .int .u64 c25, .int .u64 c26, .int .u64 c27, .int .u64 c28, .int .u64 c29, .int .u64 c30, .int .u64 c31, .int .u64 c32, .int .u64 c33, .int .u64 c34, .int .u64 c35, .int .u64 c36, .int .u64 c37, .bool c38, .int .u64 0, .int .u64 0] _ rfl Bg1 Try.underlying36 rfl (by kernel_rfl)) rfl ⟨rfl, HS.out⟩
end Go.Proofs.Ytpgffmnbdggpnaa.PCtl
