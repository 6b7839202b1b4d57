-- Written by a program of this session (wip/tools/xprint.py) for this claim.
import Derived.Test.YtaaieijkmhmecaaPPrCx0
import Derived.Test.YtaaieijkmhmecaaPPrCx2
import Derived.Test.YtaaieijkmhmecaaPPrCx3
namespace Go.Proofs.Ytaaieijkmhmecaa.PPrC
open Go.RowKit Go.Proofs.YtaaieijkmhmecaaW.PrintWords Go.Proofs.YtaaieijkmhmecaaW.PrintLast Go.Proofs.YtaaieijkmhmecaaW.PrintMore
set_option linter.unusedVariables false
set_option linter.unusedSimpArgs false

-- given
/-! ### prague_Mark: function 9 -/
set_option maxHeartbeats 4000000 in
theorem lessC (g : Nat) (c0 c1 c2 c3 parts : Int) (h0 : W64 c0) (hp : W64 parts) (w : World)
    (k0 : w.cell? ⟨g, 0, none⟩ = some (.int .u64 c0)) (k1 : w.cell? ⟨g, 1, none⟩ = some (.int .u64 c1)) (k2 : w.cell? ⟨g, 2, none⟩ = some (.int .u64 c2)) (k3 : w.cell? ⟨g, 3, none⟩ = some (.int .u64 c3))
    (f0 : w.frozen? ⟨g, 0, none⟩ = false) (f1 : w.frozen? ⟨g, 1, none⟩ = false) (f2 : w.frozen? ⟨g, 2, none⟩ = false) (f3 : w.frozen? ⟨g, 3, none⟩ = false) :
    Calls Try.prog 24 #[.pointer (some ⟨g, 0, none⟩), .int .u64 parts] w fun e w' => e = .returned (.tuple #[]) ∧ ∃ n, w' = ((((w.drewN n).setCell ⟨g, 0, none⟩ (.int .u64 (uLess c0 parts))).setCell ⟨g, 1, none⟩ (.int .u64 (uLess c0 parts))).setCell ⟨g, 2, none⟩ (.int .u64 c2)).setCell ⟨g, 3, none⟩ (.int .u64 0) := by
  unfold uLess
  have hu24 := Try.underlying24
  have hu49 := Try.underlying49
  have m1 := uMulDiv_w h0 hp (show W64 2097152 by omega)
  go_enter Try.func24, Try.ntmps24
  go_wp2
  go_quiet (first | (go_at_call 26; with_reducible exact fix_MulDivT.Q _ _ _ h0 hp (show W64 2097152 by omega) _ _) | (go_at_call 40; with_reducible exact fix_Sub.Q _ _ h0 m1 _ _) | (go_at_call 37; with_reducible exact reno_Held.Q _ _ _))
  go_wp2
  go_end0
  exact ⟨rfl, _, rfl⟩
set_option maxHeartbeats 4000000 in
theorem endC (g : Nat) (b0 b1 b2 b3 x0 x1 x2 x3 al ac mk en : Int) (ct : Bool) (w : World) (hgl : g < w.heap.size)
    (k0 : w.cell? ⟨g, 0, none⟩ = some (.int .u64 b0)) (k1 : w.cell? ⟨g, 1, none⟩ = some (.int .u64 b1)) (k2 : w.cell? ⟨g, 2, none⟩ = some (.int .u64 b2)) (k3 : w.cell? ⟨g, 3, none⟩ = some (.int .u64 b3))
    (k4 : w.cell? ⟨g, 4, none⟩ = some (.int .u64 x0)) (k5 : w.cell? ⟨g, 5, none⟩ = some (.int .u64 x1)) (k6 : w.cell? ⟨g, 6, none⟩ = some (.int .u64 x2)) (k7 : w.cell? ⟨g, 7, none⟩ = some (.int .u64 x3))
    (k8 : w.cell? ⟨g, 8, none⟩ = some (.int .u64 al)) (k9 : w.cell? ⟨g, 9, none⟩ = some (.int .u64 ac)) (k10 : w.cell? ⟨g, 10, none⟩ = some (.int .u64 mk)) (k11 : w.cell? ⟨g, 11, none⟩ = some (.int .u64 en)) (k12 : w.cell? ⟨g, 12, none⟩ = some (.bool ct))
    (f4 : w.frozen? ⟨g, 4, none⟩ = false) (f5 : w.frozen? ⟨g, 5, none⟩ = false) (f6 : w.frozen? ⟨g, 6, none⟩ = false) (f7 : w.frozen? ⟨g, 7, none⟩ = false) :
    Calls Try.prog 25 #[.pointer (some ⟨g, 0, none⟩)] w fun e w' => e = .returned (.agg #[.int .u64 b0, .int .u64 b1, .int .u64 b2, .int .u64 b3, .int .u64 al, .int .u64 ac, .int .u64 mk, .int .u64 en, .bool ct]) ∧ w' = ((((w.setCell ⟨g, 4, none⟩ (.int .u64 b0)).setCell ⟨g, 5, none⟩ (.int .u64 b1)).setCell ⟨g, 6, none⟩ (.int .u64 b2)).setCell ⟨g, 7, none⟩ (.int .u64 b3)).alloc (.cells #[.int .u64 b0, .int .u64 b1, .int .u64 b2, .int .u64 b3, .int .u64 al, .int .u64 ac, .int .u64 mk, .int .u64 en, .bool ct] 26) := by
  have hu24 := Try.underlying24
  have hu26 := Try.underlying26
  have hu51 := Try.underlying51
  have n1 : ¬ g = w.heap.size := by omega
  have n2 : ¬ w.heap.size = g := by omega
  go_enter Try.func25, Try.ntmps25
  go_wp2
  refine bodyPost_ret (v := .agg #[.int .u64 b0, .int .u64 b1, .int .u64 b2, .int .u64 b3, .int .u64 al, .int .u64 ac, .int .u64 mk, .int .u64 en, .bool ct]) (by simp [results, Try.results25, go_sem]) rfl ⟨rfl, rfl⟩
set_option maxHeartbeats 4000000 in
theorem mark_cut (b0 b1 b2 b3 al ac mk en bytes at_ : Int) (hm : W64 mk) (hb : W64 bytes) (w : World) :
    Calls Try.prog 9 #[.agg #[.int .u64 b0, .int .u64 b1, .int .u64 b2, .int .u64 b3, .int .u64 al, .int .u64 ac, .int .u64 mk, .int .u64 en, .bool true], .int .u64 bytes, .int .u64 at_] w fun e w' =>
      e = .returned (.agg #[.int .u64 b0, .int .u64 b1, .int .u64 b2, .int .u64 b3, .int .u64 al, .int .u64 ac, .int .u64 (uAdd mk bytes), .int .u64 en, .bool true]) ∧ Below w.heap.size w w' := by
  have hu24 := Try.underlying24
  have hu26 := Try.underlying26
  go_enter Try.func9, Try.ntmps9
  go_wp2_with ((go_at_call 23); (with_reducible refine (fix_Add.C _ _ hm hb _).mono ?_); rintro e w' ⟨rfl, ⟨nd, rfl⟩⟩)
  refine bodyPost_ret (v := .agg #[.int .u64 b0, .int .u64 b1, .int .u64 b2, .int .u64 b3, .int .u64 al, .int .u64 ac, .int .u64 (uAdd mk bytes), .int .u64 en, .bool true]) (by simp [results, Try.results9, go_sem]) rfl ⟨rfl, ?_⟩
  repeat (first | (with_reducible exact Below.refl _ _) | (with_reducible refine below_set ?_ (by omega)) | (with_reducible apply pw_below_drewN) | (with_reducible apply below_alloc) | (with_reducible apply below_drew))
set_option maxHeartbeats 4000000 in
theorem mark_early (b0 b1 b2 b3 al ac mk en bytes at_ : Int) (hm : W64 mk) (hb : W64 bytes) (hlt : at_ < b2) (w : World) :
    Calls Try.prog 9 #[.agg #[.int .u64 b0, .int .u64 b1, .int .u64 b2, .int .u64 b3, .int .u64 al, .int .u64 ac, .int .u64 mk, .int .u64 en, .bool false], .int .u64 bytes, .int .u64 at_] w fun e w' =>
      e = .returned (.agg #[.int .u64 b0, .int .u64 b1, .int .u64 b2, .int .u64 b3, .int .u64 al, .int .u64 ac, .int .u64 (uAdd mk bytes), .int .u64 en, .bool false]) ∧ Below w.heap.size w w' := by
  have hu24 := Try.underlying24
  have hu26 := Try.underlying26
  have hd : decide (at_ < b2) = true := decide_eq_true hlt
  go_enter Try.func9, Try.ntmps9
  go_wp2_with ((go_at_call 23); (with_reducible refine (fix_Add.C _ _ hm hb _).mono ?_); rintro e w' ⟨rfl, ⟨nd, rfl⟩⟩)
  refine bodyPost_ret (v := .agg #[.int .u64 b0, .int .u64 b1, .int .u64 b2, .int .u64 b3, .int .u64 al, .int .u64 ac, .int .u64 (uAdd mk bytes), .int .u64 en, .bool false]) (by simp [results, Try.results9, go_sem]) rfl ⟨rfl, ?_⟩
  repeat (first | (with_reducible exact Below.refl _ _) | (with_reducible refine below_set ?_ (by omega)) | (with_reducible apply pw_below_drewN) | (with_reducible apply below_alloc) | (with_reducible apply below_drew))
set_option maxHeartbeats 4000000 in
theorem mark_less (b0 b1 b2 b3 al ac mk en bytes at_ : Int) (h0 : W64 b0) (ha : W64 al) (hm : W64 mk) (hb : W64 bytes) (hge : b2 ≤ at_) (w : World) :
    Calls Try.prog 9 #[.agg #[.int .u64 b0, .int .u64 b1, .int .u64 b2, .int .u64 b3, .int .u64 al, .int .u64 ac, .int .u64 mk, .int .u64 en, .bool false], .int .u64 bytes, .int .u64 at_] w fun e w' =>
      e = .returned (.agg #[.int .u64 (uLess b0 al), .int .u64 (uLess b0 al), .int .u64 b2, .int .u64 0, .int .u64 al, .int .u64 ac, .int .u64 (uAdd mk bytes), .int .u64 en, .bool true]) ∧ Below w.heap.size w w' := by
  have hu24 := Try.underlying24
  have hu26 := Try.underlying26
  have hu49 := Try.underlying49
  have hu51 := Try.underlying51
  have hd : decide (at_ < b2) = false := decide_eq_false (by omega)
  go_enter Try.func9, Try.ntmps9
  go_wp2_with ((go_at_call 23); (with_reducible refine (fix_Add.C _ _ hm hb _).mono ?_); rintro e w' ⟨rfl, ⟨nd, rfl⟩⟩)
  go_region_with ((go_at_call 24); (with_reducible refine (lessC _ b0 b1 b2 b3 al h0 ha _ ?k0 ?k1 ?k2 ?k3 ?f0 ?f1 ?f2 ?f3).mono ?_); (case k0 => go_simp); (case k1 => go_simp); (case k2 => go_simp); (case k3 => go_simp); (case f0 => go_simp); (case f1 => go_simp); (case f2 => go_simp); (case f3 => go_simp); rintro e w' ⟨rfl, ⟨nd2, rfl⟩⟩)
  go_wp2_with ((go_at_call 25); (with_reducible refine (endC (w.heap.size + 1 + 1) (uLess b0 al) (uLess b0 al) b2 0 b0 b1 b2 b3 al ac (uAdd mk bytes) en true _ ?hgl ?k0 ?k1 ?k2 ?k3 ?k4 ?k5 ?k6 ?k7 ?k8 ?k9 ?k10 ?k11 ?k12 ?f4 ?f5 ?f6 ?f7).mono ?_); (case k0 => go_simp); (case k1 => go_simp); (case k2 => go_simp); (case k3 => go_simp); (case k4 => go_simp); (case k5 => go_simp); (case k6 => go_simp); (case k7 => go_simp); (case k8 => go_simp); (case k9 => go_simp); (case k10 => go_simp); (case k11 => go_simp); (case k12 => go_simp); (case f4 => go_simp); (case f5 => go_simp); (case f6 => go_simp); (case f7 => go_simp); (case hgl => first | (simp; done) | (simp; omega)); rintro e w' ⟨rfl, rfl⟩)
  refine bodyPost_ret (v := .agg #[.int .u64 (uLess b0 al), .int .u64 (uLess b0 al), .int .u64 b2, .int .u64 0, .int .u64 al, .int .u64 ac, .int .u64 (uAdd mk bytes), .int .u64 en, .bool true]) (by simp [results, Try.results9, go_sem]) rfl ⟨rfl, ?_⟩
  repeat (first | (with_reducible exact Below.refl _ _) | (with_reducible refine below_set ?_ (by omega)) | (with_reducible apply pw_below_drewN) | (with_reducible apply below_alloc) | (with_reducible apply below_drew))
def prague_Mark.f (a0_0 : Int) (a0_1 : Int) (a0_2 : Int) (a0_3 : Int) (a0_4 : Int) (a0_5 : Int) (a0_6 : Int) (a0_7 : Int) (a0_8 : Bool) (a1 : Int) (a2 : Int) : Option (Int × Int × Int × Int × Int × Int × Int × Int × Bool) := if W64 a0_0 ∧ W64 a0_4 ∧ W64 a0_6 ∧ W64 a1 then some (uMark a0_0 a0_1 a0_2 a0_3 a0_4 a0_5 a0_6 a0_7 a0_8 a1 a2) else none
theorem prague_Mark.calls (a0_0 : Int) (a0_1 : Int) (a0_2 : Int) (a0_3 : Int) (a0_4 : Int) (a0_5 : Int) (a0_6 : Int) (a0_7 : Int) (a0_8 : Bool) (a1 : Int) (a2 : Int) (r1 : Int) (r2 : Int) (r3 : Int) (r4 : Int) (r5 : Int) (r6 : Int) (r7 : Int) (r8 : Int) (r9 : Bool) (w : World) (h : prague_Mark.f a0_0 a0_1 a0_2 a0_3 a0_4 a0_5 a0_6 a0_7 a0_8 a1 a2 = some (r1, r2, r3, r4, r5, r6, r7, r8, r9)) :
    Calls Try.prog 9 #[.agg #[.int .u64 a0_0, .int .u64 a0_1, .int .u64 a0_2, .int .u64 a0_3, .int .u64 a0_4, .int .u64 a0_5, .int .u64 a0_6, .int .u64 a0_7, .bool a0_8], .int .u64 a1, .int .u64 a2] w fun e w' => e = .returned (.agg #[.int .u64 r1, .int .u64 r2, .int .u64 r3, .int .u64 r4, .int .u64 r5, .int .u64 r6, .int .u64 r7, .int .u64 r8, .bool r9]) ∧ Below w.heap.size w w' := by
  unfold prague_Mark.f at h
  split at h
  · rename_i hw
    have h := Option.some.inj h
    unfold uMark at h
    cases a0_8 with
    | true =>
      rw [if_pos (.inl rfl)] at h
      cases h
      exact mark_cut _ _ _ _ _ _ _ _ _ _ hw.2.2.1 hw.2.2.2 w
    | false =>
      by_cases h1 : a2 < a0_2
      · rw [if_pos (.inr h1)] at h
        cases h
        exact mark_early _ _ _ _ _ _ _ _ _ _ hw.2.2.1 hw.2.2.2 h1 w
      · rw [if_neg (by simp; omega)] at h
        cases h
        exact mark_less _ _ _ _ _ _ _ _ _ _ hw.1 hw.2.1 hw.2.2.1 hw.2.2.2 (by omega) w
  · cases h


-- given
/-! ### reno_Ack: function 20 -/
set_option maxHeartbeats 400000 in
theorem grownC (by_ c0 : Int) (hb : W64 by_) (hc0 : W64 c0) (g : Nat) (w : World) (hc : w.cell? ⟨g, 0, none⟩ = some (.int .u64 c0)) :
    Calls Try.prog 36 #[.int .u64 by_, .pointer (some ⟨g, 0, none⟩)] w fun e w' => e = .returned (.int .u64 (uHeld (uAdd c0 by_))) ∧ Drawn0 w w' := by
  go_enter Try.func36, Try.ntmps36
  go_wp2_with (first | ((go_at_call 23); (with_reducible refine (fix_Add.C _ _ hc0 hb _).mono ?_); rintro e w' ⟨rfl, ⟨nd, rfl⟩⟩) | ((go_at_call 37); (with_reducible refine (reno_Held.C _ _).mono ?_); rintro e w' ⟨rfl, ⟨nd, rfl⟩⟩))
  go_ret
  exact ⟨rfl, ⟨_, rfl⟩⟩
set_option maxHeartbeats 4000000 in
theorem ack_lim (c0 c1 c2 c3 bytes at_ : Int) (w : World) :
    Calls Try.prog 20 #[.agg #[.int .u64 c0, .int .u64 c1, .int .u64 c2, .int .u64 c3], .int .u64 bytes, .int .u64 at_, .bool true] w fun e w' => e = .returned (.agg #[.int .u64 c0, .int .u64 c1, .int .u64 c2, .int .u64 c3]) ∧ Below w.heap.size w w' := by
  have hmf : ∀ (fn : Fn) (first cap : Array Value) (w : World), (Instr.makeFunc fn first cap).run Try.prog w = .ok (.func fn first cap) w := fun _ _ _ _ => rfl
  have hu := Try.underlying24
  go_enter Try.func20, Try.ntmps20
  go_wp2
  refine bodyPost_ret (v := .agg #[.int .u64 c0, .int .u64 c1, .int .u64 c2, .int .u64 c3]) (by simp [results, Try.results20, go_sem]) rfl ⟨rfl, ?_⟩
  exact below_alloc (below_alloc (Below.refl _ _) _) _
set_option maxHeartbeats 4000000 in
theorem ack_early (c0 c1 c2 c3 bytes at_ : Int) (hlt : at_ < c2) (w : World) :
    Calls Try.prog 20 #[.agg #[.int .u64 c0, .int .u64 c1, .int .u64 c2, .int .u64 c3], .int .u64 bytes, .int .u64 at_, .bool false] w fun e w' => e = .returned (.agg #[.int .u64 c0, .int .u64 c1, .int .u64 c2, .int .u64 c3]) ∧ Below w.heap.size w w' := by
  have hmf : ∀ (fn : Fn) (first cap : Array Value) (w : World), (Instr.makeFunc fn first cap).run Try.prog w = .ok (.func fn first cap) w := fun _ _ _ _ => rfl
  have hu := Try.underlying24
  go_enter Try.func20, Try.ntmps20
  go_wp2
  refine bodyPost_ret (v := .agg #[.int .u64 c0, .int .u64 c1, .int .u64 c2, .int .u64 c3]) (by simp [results, Try.results20, go_sem]) rfl ⟨rfl, ?_⟩
  exact below_alloc (below_alloc (Below.refl _ _) _) _
set_option maxHeartbeats 4000000 in
theorem ack_slow (c0 c1 c2 c3 bytes at_ : Int) (h0 : W64 c0) (hb : W64 bytes) (hge : c2 ≤ at_) (hs : c0 < c1) (w : World) :
    Calls Try.prog 20 #[.agg #[.int .u64 c0, .int .u64 c1, .int .u64 c2, .int .u64 c3], .int .u64 bytes, .int .u64 at_, .bool false] w fun e w' => e = .returned (.agg #[.int .u64 (uHeld (uAdd c0 bytes)), .int .u64 c1, .int .u64 c2, .int .u64 c3]) ∧ Below w.heap.size w w' := by
  have hmf : ∀ (fn : Fn) (first cap : Array Value) (w : World), (Instr.makeFunc fn first cap).run Try.prog w = .ok (.func fn first cap) w := fun _ _ _ _ => rfl
  have hu := Try.underlying24
  have hge' : decide (at_ < c2) = false := decide_eq_false (by omega)
  go_enter Try.func20, Try.ntmps20
  go_wp2_with (go_at_call 36; (with_reducible refine (grownC bytes c0 hb h0 w.heap.size _ (by go_simp)).mono ?_); rintro e w' ⟨rfl, ⟨nd, rfl⟩⟩)
  refine bodyPost_ret (v := .agg #[.int .u64 (uHeld (uAdd c0 bytes)), .int .u64 c1, .int .u64 c2, .int .u64 c3]) (by simp [results, Try.results20, go_sem]) rfl ⟨rfl, ?_⟩
  repeat (first | (with_reducible exact Below.refl _ _) | (with_reducible refine below_set ?_ (by omega)) | (with_reducible apply pw_below_drewN) | (with_reducible apply below_alloc))
set_option maxHeartbeats 4000000 in
theorem ack_fast (c0 c1 c2 c3 bytes at_ : Int) (h0 : W64 c0) (h3 : W64 c3) (hb : W64 bytes) (hge : c2 ≤ at_) (hs : c1 ≤ c0) (w : World) :
    Calls Try.prog 20 #[.agg #[.int .u64 c0, .int .u64 c1, .int .u64 c2, .int .u64 c3], .int .u64 bytes, .int .u64 at_, .bool false] w fun e w' => e = .returned (.agg #[.int .u64 (uHeld (uAdd c0 (uAdd c3 (uMul bytes 1200) / max c0 1))), .int .u64 c1, .int .u64 c2, .int .u64 (uAdd c3 (uMul bytes 1200) % max c0 1)]) ∧ Below w.heap.size w w' := by
  have hmf : ∀ (fn : Fn) (first cap : Array Value) (w : World), (Instr.makeFunc fn first cap).run Try.prog w = .ok (.func fn first cap) w := fun _ _ _ _ => rfl
  have hu := Try.underlying24
  have hge' : decide (at_ < c2) = false := decide_eq_false (by omega)
  have hs' : decide (c0 < c1) = false := decide_eq_false (by omega)
  have m1 := uMul_w hb (show W64 1200 by omega)
  have hr := uAdd_w h3 m1
  have hm1 : 1 ≤ max c0 1 := by omega
  have hq : W64 (uAdd c3 (uMul bytes 1200) / max c0 1) := ⟨Int.ediv_nonneg hr.1 (by omega), Int.le_trans (Int.ediv_le_self _ hr.1) hr.2⟩
  have hw1 : IntKind.u64.wrap ((uAdd c3 (uMul bytes 1200)).tdiv (max c0 1)) = uAdd c3 (uMul bytes 1200) / max c0 1 := by rw [Int.tdiv_eq_ediv_of_nonneg hr.1, w64 hq]
  have hw2 : (uAdd c3 (uMul bytes 1200)).tmod (max c0 1) = uAdd c3 (uMul bytes 1200) % max c0 1 := Int.tmod_eq_emod_of_nonneg hr.1
  have hr' : 0 ≤ uAdd c3 (uMul bytes 1200) := hr.1
  have hr'' : uAdd c3 (uMul bytes 1200) ≤ 18446744073709551615 := hr.2
  go_enter Try.func20, Try.ntmps20
  go_wp2
  go_quiet (first | (go_at_call 38; with_reducible exact fix_MulT.Q _ _ hb (show W64 1200 by omega) _ _) | (go_at_call 23; with_reducible exact fix_Add.Q _ _ h3 m1 _ _))
  go_wp2
  go_region_with (go_at_call 36; (with_reducible refine (grownC _ c0 hq h0 w.heap.size _ (by go_simp)).mono ?_); rintro e w' ⟨rfl, ⟨nd, rfl⟩⟩)
  all_goals
    clear hw1 hw2
    go_wp2
    refine bodyPost_ret (v := .agg #[.int .u64 (uHeld (uAdd c0 (uAdd c3 (uMul bytes 1200) / max c0 1))), .int .u64 c1, .int .u64 c2, .int .u64 (uAdd c3 (uMul bytes 1200) % max c0 1)]) (by simp [results, Try.results20, go_sem]) rfl ⟨rfl, ?_⟩
    repeat (first | (with_reducible exact Below.refl _ _) | (with_reducible refine below_set ?_ (by omega)) | (with_reducible apply pw_below_drewN) | (with_reducible apply below_alloc) | (with_reducible apply below_drew))
def reno_Ack.f (a0_0 : Int) (a0_1 : Int) (a0_2 : Int) (a0_3 : Int) (a1 : Int) (a2 : Int) (a3 : Bool) : Option (Int × Int × Int × Int) := if W64 a0_0 ∧ W64 a0_3 ∧ W64 a1 then some (uRenoAck a0_0 a0_1 a0_2 a0_3 a1 a2 a3) else none
theorem reno_Ack.calls (a0_0 : Int) (a0_1 : Int) (a0_2 : Int) (a0_3 : Int) (a1 : Int) (a2 : Int) (a3 : Bool) (r1 : Int) (r2 : Int) (r3 : Int) (r4 : Int) (w : World) (h : reno_Ack.f a0_0 a0_1 a0_2 a0_3 a1 a2 a3 = some (r1, r2, r3, r4)) :
    Calls Try.prog 20 #[.agg #[.int .u64 a0_0, .int .u64 a0_1, .int .u64 a0_2, .int .u64 a0_3], .int .u64 a1, .int .u64 a2, .bool a3] w fun e w' => e = .returned (.agg #[.int .u64 r1, .int .u64 r2, .int .u64 r3, .int .u64 r4]) ∧ Below w.heap.size w w' := by
  unfold reno_Ack.f at h
  split at h
  · rename_i hw
    have h := Option.some.inj h
    cases a3 with
    | true =>
      unfold uRenoAck at h
      rw [if_pos (.inl rfl)] at h
      cases h
      exact ack_lim _ _ _ _ _ _ w
    | false =>
      unfold uRenoAck at h
      by_cases h1 : a2 < a0_2
      · rw [if_pos (.inr h1)] at h
        cases h
        exact ack_early _ _ _ _ _ _ h1 w
      · rw [if_neg (by simp; omega)] at h
        by_cases h2 : a0_0 < a0_1
        · rw [if_pos h2] at h
          cases h
          exact ack_slow _ _ _ _ _ _ hw.1 hw.2.2 (by omega) h2 w
        · rw [if_neg h2] at h
          cases h
          exact ack_fast _ _ _ _ _ _ hw.1 hw.2.1 hw.2.2 (by omega) (by omega) w
  · cases h


end Go.Proofs.Ytaaieijkmhmecaa.PPrC
