/- Several texts of this claim in one: FrW FrX FrY FrZ -/
import Derived.Test.YtphakdfholkbdaaKU
import Derived.Test.YtphakdfholkbdaaKQ
import Derived.Test.YtphakdfholkbdaaKH
section
namespace Go.Proofs.Ytphakdfholkbdaa
open Go.Proofs.Ytphakdfholkbdaa.PFra Go.RowKit Go.Proofs.YtphakdfholkbdaaW.PrintWords Go.Proofs.YtphakdfholkbdaaW.PrintLast Go.Proofs.YtphakdfholkbdaaW.PrintMore
set_option maxRecDepth 100000
set_option maxHeartbeats 4000000
set_option linter.unusedVariables false
set_option linter.unusedSimpArgs false
abbrev BhV := (Nat → Int) × Bool × List Int × List S47 × List Int
def ackU (K : Int) (l : List Int) : Option BhV := (uTake 1 l).bind fun q1 => if 1 ≤ rd q1.1 0 ∧ rd q1.1 0 ≤ 32 then (uTake (2 * (rd q1.1 0).toNat) q1.2).bind fun q2 => (ackS q2.1).bind fun s => (uTake (if K = 3 then 2 else 1) q2.2).map fun q3 => (setL (if K = 3 then [5, 6] else [5]) q3.1 (fun _ => 0), false, [], s, q3.2) else none
theorem drop_tail {l r1 r2 : List Int} (h1 : r1 = l.drop (l.length - r1.length)) (h2 : r2 = r1.drop (r1.length - r2.length)) (hl1 : r1.length ≤ l.length) (hl2 : r2.length ≤ r1.length) : r2 = l.drop (l.length - r2.length) := by
 have h3 : r2 = (l.drop (l.length - r1.length)).drop (r1.length - r2.length) := by rw [← h1]; exact h2
 rw [List.drop_drop] at h3
 conv => lhs; rw [h3]
 congr 1
 omega
theorem drop_to {l r : List Int} (h : r = l.drop (l.length - r.length)) : r = l.drop ((l.length : Int) - r.length).toNat := by
 rw [show ((l.length : Int) - r.length).toNat = l.length - r.length from by omega]
 exact h
theorem one_num {l : List Int} (h : l.length = 1) : ∃ a, l = [a] := by
 match l, h with
 | [a], _ => exact ⟨a, rfl⟩
theorem two_num {l : List Int} (h : l.length = 2) : ∃ a b, l = [a, b] := by
 match l, h with
 | [a, b], _ => exact ⟨a, b, rfl⟩
def AckP (w : World) (K : Int) (l : List Int) : Option BhV → Ending → World → Prop
 | none, e, w' => e = .returned (.tuple #[.agg #[.int .i64 0, .int .u64 0, .int .u64 0, .int .u64 0, .int .u64 0, .int .u64 0, .int .u64 0, .bool false, .slice none 0 0, .slice none 0 0], .int .i64 0, .bool false]) ∧ Below w.heap.size w w'
 | some (f, _, _, s, r), e, w' => ∃ As cs, e = .returned (.tuple #[.agg #[.int .i64 K, .int .u64 0, .int .u64 0, .int .u64 0, .int .u64 0, .int .u64 (f 5), .int .u64 (f 6), .bool false, .slice none 0 0, .slice As s.length cs], .int .i64 ((l.length : Int) - r.length), .bool true]) ∧ SR w.heap.size w' (.slice As s.length cs) s ∧ Below w.heap.size w w'
theorem rack_calls (K : Int) (hK : K = 2 ∨ K = 3) (A : Option Addr) (c : Nat) (l : List Int) (w : World) (h0 : Kd.C (Kd.int .u8) w A l.length l) (hc : l.length ≤ c) (hb : bytesOk l = true) (hl : l.length < 1000000) :
  Calls Try.prog 45 #[.int .i64 K, .slice A l.length c] w (AckP w K l (ackU K l)) := by
 have T1 := take_eq (K := 500) hb hl (N := 1) (by omega) (by omega)
 unfold ackU
 cases hu1 : uTake 1 l with
 | none =>
  rw [hu1] at T1
  exact rack_no1 500 A c l w h0 hc K T1
 | some q1 =>
  obtain ⟨v1, l1⟩ := q1
  obtain ⟨n1, m1, b1, le1, d1⟩ := uTake_some 1 l v1 l1 hb hu1
  obtain ⟨cnt, rfl⟩ := one_num n1
  have hcnt := m1 cnt (by simp)
  rw [hu1] at T1
  have T1 : wigwagref05_take.f 500 l 1 = some ([cnt], (l.length : Int) - l1.length, true) := T1
  have hr0 : rd [cnt] 0 = cnt := rfl
  rw [Option.bind_some]
  simp only [hr0]
  by_cases hlo : cnt < 1
  ·rw [if_neg (by omega)]
   exact rack_few 500 A c l w h0 hc K cnt _ T1 (decide_eq_true hlo)
  by_cases hhi : 32 < cnt
  ·rw [if_neg (by omega)]
   exact rack_many 500 A c l w h0 hc K cnt _ T1 (decide_eq_false hlo) (decide_eq_true hhi)
  rw [if_pos ⟨by omega, by omega⟩]
  obtain ⟨A1, c1, hcut, hA1, hc1⟩ := cutR (A := A) (c := c) (l := l) (r := l1) (j := (l.length : Int) - l1.length) (by omega) (by omega) (drop_to d1) hc
  have ea : wrap64 (IntKind.u64.wrap (2 * cnt)) = ((2 * cnt.toNat : Nat) : Int) := by
   rw [w64 ⟨by omega, by omega⟩]
   unfold wrap64; omega
  have T2 := take_eq (K := 500) b1 (by omega) (N := 2 * cnt.toNat) (by omega) (by omega)
  rw [← ea] at T2
  cases hu2 : uTake (2 * cnt.toNat) l1 with
  | none =>
   rw [hu2] at T2
   exact rack_no2 500 A c l w h0 hc K cnt _ T1 (decide_eq_false hlo) (decide_eq_false hhi) A1 c1 l1 hcut hA1 hc1 T2
  | some q2 =>
   obtain ⟨vs, l2⟩ := q2
   obtain ⟨n2, m2, b2, le2, d2⟩ := uTake_some _ l1 vs l2 b1 hu2
   rw [hu2] at T2
   have T2 : wigwagref05_take.f 500 l1 (wrap64 (IntKind.u64.wrap (2 * cnt))) = some (vs, (l1.length : Int) - l2.length, true) := T2
   have d3 := drop_tail d1 d2 le1 le2
   have ew : wrap64 (((l.length : Int) - l1.length) + ((l1.length : Int) - l2.length)) = (l.length : Int) - l2.length := by unfold wrap64; omega
   obtain ⟨A3, c3, hcut3, hA3, hc3⟩ := cutR (A := A) (c := c) (l := l) (r := l2) (j := (l.length : Int) - l2.length) (by omega) (by omega) (drop_to d3) hc
   rw [← ew] at hcut3
   have hA2 := acked_eq (K := 500) (l := vs) (m := cnt.toNat - 1) (by omega) (by omega) m2 (by omega)
   rw [Option.bind_some]
   simp only
   rcases hK with rfl | rfl
   ·have T3 := take_eq (K := 500) b2 (by omega) (N := 1) (by omega) (by omega)
    cases hS : ackS vs with
    | none =>
     rw [hS] at hA2
     obtain ⟨M, n3, b3, T3'⟩ : ∃ M n3 b3, wigwagref05_take.f 500 l2 1 = some (M, n3, b3) := ⟨_, _, _, T3⟩
     exact rack_bad2a 500 A c l w h0 hc cnt _ T1 (decide_eq_false hlo) (decide_eq_false hhi) A1 c1 l1 hcut hA1 hc1 vs _ T2 A3 c3 l2 hcut3 hA3 hc3 _ hA2 M n3 b3 T3'
    | some s =>
     rw [hS] at hA2
     rw [Option.bind_some, if_neg (by decide), if_neg (by decide)]
     cases hu3 : uTake 1 l2 with
     | none =>
      rw [hu3] at T3
      exact rack_bad2b 500 A c l w h0 hc cnt _ T1 (decide_eq_false hlo) (decide_eq_false hhi) A1 c1 l1 hcut hA1 hc1 vs _ T2 A3 c3 l2 hcut3 hA3 hc3 _ hA2 _ _ T3
     | some q3 =>
      obtain ⟨v3, l3⟩ := q3
      obtain ⟨n3, m3, b3, le3, d4⟩ := uTake_some _ l2 v3 l3 b2 hu3
      obtain ⟨d, rfl⟩ := one_num n3
      rw [hu3] at T3
      have ew2 : wrap64 (wrap64 (((l.length : Int) - l1.length) + ((l1.length : Int) - l2.length)) + ((l2.length : Int) - l3.length)) = (l.length : Int) - l3.length := by rw [ew]; unfold wrap64; omega
      have := rack_ok2 500 A c l w h0 hc cnt _ T1 (decide_eq_false hlo) (decide_eq_false hhi) A1 c1 l1 hcut hA1 hc1 vs _ T2 A3 c3 l2 hcut3 hA3 hc3 s hA2 d _ T3
      rw [ew2] at this
      exact this
   ·have T3 := take_eq (K := 500) b2 (by omega) (N := 2) (by omega) (by omega)
    cases hS : ackS vs with
    | none =>
     rw [hS] at hA2
     obtain ⟨M, n3, b3, T3'⟩ : ∃ M n3 b3, wigwagref05_take.f 500 l2 2 = some (M, n3, b3) := ⟨_, _, _, T3⟩
     exact rack_bad3a 500 A c l w h0 hc cnt _ T1 (decide_eq_false hlo) (decide_eq_false hhi) A1 c1 l1 hcut hA1 hc1 vs _ T2 A3 c3 l2 hcut3 hA3 hc3 _ hA2 M n3 b3 T3'
    | some s =>
     rw [hS] at hA2
     rw [Option.bind_some, if_pos rfl, if_pos rfl]
     cases hu3 : uTake 2 l2 with
     | none =>
      rw [hu3] at T3
      exact rack_bad3b 500 A c l w h0 hc cnt _ T1 (decide_eq_false hlo) (decide_eq_false hhi) A1 c1 l1 hcut hA1 hc1 vs _ T2 A3 c3 l2 hcut3 hA3 hc3 _ hA2 _ _ T3
     | some q3 =>
      obtain ⟨v3, l3⟩ := q3
      obtain ⟨n3, m3, b3, le3, d4⟩ := uTake_some _ l2 v3 l3 b2 hu3
      obtain ⟨d, e3, rfl⟩ := two_num n3
      rw [hu3] at T3
      have ew2 : wrap64 (wrap64 (((l.length : Int) - l1.length) + ((l1.length : Int) - l2.length)) + ((l2.length : Int) - l3.length)) = (l.length : Int) - l3.length := by rw [ew]; unfold wrap64; omega
      have := rack_ok3 500 A c l w h0 hc cnt _ T1 (decide_eq_false hlo) (decide_eq_false hhi) A1 c1 l1 hcut hA1 hc1 vs _ T2 A3 c3 l2 hcut3 hA3 hc3 s hA2 d e3 _ T3
      rw [ew2] at this
      exact this
theorem rbeh_ackno2 (k : Nat) (fin : Bool) (A : Option Addr) (c : Nat) (l : List Int) (w : World) (h0 : Kd.C (Kd.int .u8) w A l.length l) (hc : l.length ≤ c) (hb : bytesOk l = true) (hl : l.length < 1000000) (hU : ackU 2 l = none) :
  Calls Try.prog 36 #[.int .i64 2, .bool fin, .slice A l.length c] w fun e w' => e = .returned (.tuple #[.agg #[.int .i64 0, .int .u64 0, .int .u64 0, .int .u64 0, .int .u64 0, .int .u64 0, .int .u64 0, .bool false, .slice none 0 0, .slice none 0 0], .int .i64 0, .bool false]) ∧ Below w.heap.size w w' := by
 have hu27 := Try.underlying27
 have HS := Since.refl w
 go_enter Try.func36, Try.ntmps36
 go_wp2_with (first | ((with_reducible refine gate_dst (N := 6) rfl ?_); (try (refine gate_guard (by rfl) ?_; dsimp only)); refine seg_new rfl (N := 6) rfl [.int .i64 0, .int .u64 0, .int .u64 0, .int .u64 0, .int .u64 0, .int .u64 0, .int .u64 0, .bool false, .slice none 0 0, .slice none 0 0] 27 ?hr ?_; (case hr => rfl); intro gf hg1 w' Bf hb; have Gf := ge_new HS hg1; replace HS := HS.below hb; clear hg1 hb) | ((go_at_call 45); (with_reducible refine (rack_calls 2 (by decide) A c l _ (Kd.C_below h0 HS.out) hc hb hl).mono ?_); rw [hU]; intro e w' hp; obtain ⟨rfl, hb_⟩ := hp; replace HS := HS.below hb_; replace Bf := Bf.below hb_; clear hb_) | ((with_reducible refine gate_ (.store 27 (.tmp 6) (.tmp 22)) rfl ?_); refine seg_store rfl rfl 27 (.tmp 6) (.tmp 22) rfl gf 0 [.int .i64 0, .int .u64 0, .int .u64 0, .int .u64 0, .int .u64 0, .int .u64 0, .int .u64 0, .bool false, .slice none 0 0, .slice none 0 0] [.int .i64 0, .int .u64 0, .int .u64 0, .int .u64 0, .int .u64 0, .int .u64 0, .int .u64 0, .bool false, .slice none 0 0, .slice none 0 0] (.agg #[.int .i64 0, .int .u64 0, .int .u64 0, .int .u64 0, .int .u64 0, .int .u64 0, .int .u64 0, .bool false, .slice none 0 0, .slice none 0 0]) rfl rfl rfl Bf (by kernel_rfl) (nle rfl) rfl rfl ?_; intro w' Bq hg; replace HS := HS.grown hg Gf; clear Bf; have Bf := Bq; clear Bq hg))
 refine bodyPost_ret (results_ctt rfl _ _ gf 27 _ (0, 0) _ rfl Bf.out hu27 rfl (by kernel_rfl)) rfl ?_
 exact ⟨rfl, HS.out⟩
theorem rbeh_ackok2 (k : Nat) (fin : Bool) (A : Option Addr) (c : Nat) (l : List Int) (w : World) (h0 : Kd.C (Kd.int .u8) w A l.length l) (hc : l.length ≤ c) (hb : bytesOk l = true) (hl : l.length < 1000000) (f : Nat → Int) (fi : Bool) (d0 : List Int) (s : List S47) (r : List Int) (hU : ackU 2 l = some (f, fi, d0, s, r)) :
  Calls Try.prog 36 #[.int .i64 2, .bool fin, .slice A l.length c] w fun e w' => ∃ As cs, e = .returned (.tuple #[.agg #[.int .i64 2, .int .u64 0, .int .u64 0, .int .u64 0, .int .u64 0, .int .u64 (f 5), .int .u64 (f 6), .bool false, .slice none 0 0, .slice As s.length cs], .int .i64 ((l.length : Int) - r.length), .bool true]) ∧ SR w.heap.size w' (.slice As s.length cs) s ∧ Below w.heap.size w w' := by
 have hu27 := Try.underlying27
 have HS := Since.refl w
 go_enter Try.func36, Try.ntmps36
 go_wp2_with (first | ((with_reducible refine gate_dst (N := 6) rfl ?_); (try (refine gate_guard (by rfl) ?_; dsimp only)); refine seg_new rfl (N := 6) rfl [.int .i64 0, .int .u64 0, .int .u64 0, .int .u64 0, .int .u64 0, .int .u64 0, .int .u64 0, .bool false, .slice none 0 0, .slice none 0 0] 27 ?hr ?_; (case hr => rfl); intro gf hg1 w' Bf hb; have Gf := ge_new HS hg1; replace HS := HS.below hb; clear hg1 hb) | ((go_at_call 45); (with_reducible refine (rack_calls 2 (by decide) A c l _ (Kd.C_below h0 HS.out) hc hb hl).mono ?_); rw [hU]; intro e w' hp; obtain ⟨As, cs, rfl, oS, hb_⟩ := hp; have S9 : SR w.heap.size w' (.slice As s.length cs) s := oS.lower HS.le; replace HS := HS.below hb_; replace Bf := Bf.below hb_; clear hb_ oS) | ((with_reducible refine gate_ (.store 27 (.tmp 6) (.tmp 22)) rfl ?_); refine seg_store rfl rfl 27 (.tmp 6) (.tmp 22) rfl gf 0 [.int .i64 2, .int .u64 0, .int .u64 0, .int .u64 0, .int .u64 0, .int .u64 (f 5), .int .u64 (f 6), .bool false, .slice none 0 0, .slice As s.length cs] [.int .i64 2, .int .u64 0, .int .u64 0, .int .u64 0, .int .u64 0, .int .u64 (f 5), .int .u64 (f 6), .bool false, .slice none 0 0, .slice As s.length cs] (.agg #[.int .i64 2, .int .u64 0, .int .u64 0, .int .u64 0, .int .u64 0, .int .u64 (f 5), .int .u64 (f 6), .bool false, .slice none 0 0, .slice As s.length cs]) rfl rfl rfl Bf (by kernel_rfl) (nle rfl) rfl rfl ?_; intro w' Bq hg; replace S9 := S9.grown Bf (by decide) hg; replace HS := HS.grown hg Gf; clear Bf; have Bf := Bq; clear Bq hg))
 refine bodyPost_ret (results_ctt rfl _ _ gf 27 _ (0, 0) _ rfl Bf.out hu27 rfl (by kernel_rfl)) rfl ?_
 exact ⟨As, cs, rfl, S9, HS.out⟩
theorem rbeh_ackno3 (k : Nat) (fin : Bool) (A : Option Addr) (c : Nat) (l : List Int) (w : World) (h0 : Kd.C (Kd.int .u8) w A l.length l) (hc : l.length ≤ c) (hb : bytesOk l = true) (hl : l.length < 1000000) (hU : ackU 3 l = none) :
  Calls Try.prog 36 #[.int .i64 3, .bool fin, .slice A l.length c] w fun e w' => e = .returned (.tuple #[.agg #[.int .i64 0, .int .u64 0, .int .u64 0, .int .u64 0, .int .u64 0, .int .u64 0, .int .u64 0, .bool false, .slice none 0 0, .slice none 0 0], .int .i64 0, .bool false]) ∧ Below w.heap.size w w' := by
 have hu27 := Try.underlying27
 have HS := Since.refl w
 go_enter Try.func36, Try.ntmps36
 go_wp2_with (first | ((with_reducible refine gate_dst (N := 6) rfl ?_); (try (refine gate_guard (by rfl) ?_; dsimp only)); refine seg_new rfl (N := 6) rfl [.int .i64 0, .int .u64 0, .int .u64 0, .int .u64 0, .int .u64 0, .int .u64 0, .int .u64 0, .bool false, .slice none 0 0, .slice none 0 0] 27 ?hr ?_; (case hr => rfl); intro gf hg1 w' Bf hb; have Gf := ge_new HS hg1; replace HS := HS.below hb; clear hg1 hb) | ((go_at_call 45); (with_reducible refine (rack_calls 3 (by decide) A c l _ (Kd.C_below h0 HS.out) hc hb hl).mono ?_); rw [hU]; intro e w' hp; obtain ⟨rfl, hb_⟩ := hp; replace HS := HS.below hb_; replace Bf := Bf.below hb_; clear hb_) | ((with_reducible refine gate_ (.store 27 (.tmp 6) (.tmp 22)) rfl ?_); refine seg_store rfl rfl 27 (.tmp 6) (.tmp 22) rfl gf 0 [.int .i64 0, .int .u64 0, .int .u64 0, .int .u64 0, .int .u64 0, .int .u64 0, .int .u64 0, .bool false, .slice none 0 0, .slice none 0 0] [.int .i64 0, .int .u64 0, .int .u64 0, .int .u64 0, .int .u64 0, .int .u64 0, .int .u64 0, .bool false, .slice none 0 0, .slice none 0 0] (.agg #[.int .i64 0, .int .u64 0, .int .u64 0, .int .u64 0, .int .u64 0, .int .u64 0, .int .u64 0, .bool false, .slice none 0 0, .slice none 0 0]) rfl rfl rfl Bf (by kernel_rfl) (nle rfl) rfl rfl ?_; intro w' Bq hg; replace HS := HS.grown hg Gf; clear Bf; have Bf := Bq; clear Bq hg))
 refine bodyPost_ret (results_ctt rfl _ _ gf 27 _ (0, 0) _ rfl Bf.out hu27 rfl (by kernel_rfl)) rfl ?_
 exact ⟨rfl, HS.out⟩
theorem rbeh_ackok3 (k : Nat) (fin : Bool) (A : Option Addr) (c : Nat) (l : List Int) (w : World) (h0 : Kd.C (Kd.int .u8) w A l.length l) (hc : l.length ≤ c) (hb : bytesOk l = true) (hl : l.length < 1000000) (f : Nat → Int) (fi : Bool) (d0 : List Int) (s : List S47) (r : List Int) (hU : ackU 3 l = some (f, fi, d0, s, r)) :
  Calls Try.prog 36 #[.int .i64 3, .bool fin, .slice A l.length c] w fun e w' => ∃ As cs, e = .returned (.tuple #[.agg #[.int .i64 3, .int .u64 0, .int .u64 0, .int .u64 0, .int .u64 0, .int .u64 (f 5), .int .u64 (f 6), .bool false, .slice none 0 0, .slice As s.length cs], .int .i64 ((l.length : Int) - r.length), .bool true]) ∧ SR w.heap.size w' (.slice As s.length cs) s ∧ Below w.heap.size w w' := by
 have hu27 := Try.underlying27
 have HS := Since.refl w
 go_enter Try.func36, Try.ntmps36
 go_wp2_with (first | ((with_reducible refine gate_dst (N := 6) rfl ?_); (try (refine gate_guard (by rfl) ?_; dsimp only)); refine seg_new rfl (N := 6) rfl [.int .i64 0, .int .u64 0, .int .u64 0, .int .u64 0, .int .u64 0, .int .u64 0, .int .u64 0, .bool false, .slice none 0 0, .slice none 0 0] 27 ?hr ?_; (case hr => rfl); intro gf hg1 w' Bf hb; have Gf := ge_new HS hg1; replace HS := HS.below hb; clear hg1 hb) | ((go_at_call 45); (with_reducible refine (rack_calls 3 (by decide) A c l _ (Kd.C_below h0 HS.out) hc hb hl).mono ?_); rw [hU]; intro e w' hp; obtain ⟨As, cs, rfl, oS, hb_⟩ := hp; have S9 : SR w.heap.size w' (.slice As s.length cs) s := oS.lower HS.le; replace HS := HS.below hb_; replace Bf := Bf.below hb_; clear hb_ oS) | ((with_reducible refine gate_ (.store 27 (.tmp 6) (.tmp 22)) rfl ?_); refine seg_store rfl rfl 27 (.tmp 6) (.tmp 22) rfl gf 0 [.int .i64 3, .int .u64 0, .int .u64 0, .int .u64 0, .int .u64 0, .int .u64 (f 5), .int .u64 (f 6), .bool false, .slice none 0 0, .slice As s.length cs] [.int .i64 3, .int .u64 0, .int .u64 0, .int .u64 0, .int .u64 0, .int .u64 (f 5), .int .u64 (f 6), .bool false, .slice none 0 0, .slice As s.length cs] (.agg #[.int .i64 3, .int .u64 0, .int .u64 0, .int .u64 0, .int .u64 0, .int .u64 (f 5), .int .u64 (f 6), .bool false, .slice none 0 0, .slice As s.length cs]) rfl rfl rfl Bf (by kernel_rfl) (nle rfl) rfl rfl ?_; intro w' Bq hg; replace S9 := S9.grown Bf (by decide) hg; replace HS := HS.grown hg Gf; clear Bf; have Bf := Bq; clear Bq hg))
 refine bodyPost_ret (results_ctt rfl _ _ gf 27 _ (0, 0) _ rfl Bf.out hu27 rfl (by kernel_rfl)) rfl ?_
 exact ⟨As, cs, rfl, S9, HS.out⟩
theorem rbeh_no (k : Nat) (fin : Bool) (A : Option Addr) (c : Nat) (l : List Int) (w : World) (h0 : Kd.C (Kd.int .u8) w A l.length l) (hc : l.length ≤ c) (K N : Int) (k2 : (K == 2) = false) (k3 : (K == 3) = false) (hN : wigwagref05_count.f K = some N) (T1 : wigwagref05_take.f k l N = some ([], 0, false)) :
  Calls Try.prog 36 #[.int .i64 K, .bool fin, .slice A l.length c] w fun e w' => e = .returned (.tuple #[.agg #[.int .i64 0, .int .u64 0, .int .u64 0, .int .u64 0, .int .u64 0, .int .u64 0, .int .u64 0, .bool false, .slice none 0 0, .slice none 0 0], .int .i64 0, .bool false]) ∧ Below w.heap.size w w' := by
 have hu27 := Try.underlying27
 have HS := Since.refl w
 go_enter Try.func36, Try.ntmps36
 go_wp2_with (first | ((with_reducible refine gate_dst (N := 6) rfl ?_); (try (refine gate_guard (by rfl) ?_; dsimp only)); refine seg_new rfl (N := 6) rfl [.int .i64 0, .int .u64 0, .int .u64 0, .int .u64 0, .int .u64 0, .int .u64 0, .int .u64 0, .bool false, .slice none 0 0, .slice none 0 0] 27 ?hr ?_; (case hr => rfl); intro gf hg1 w' Bf hb; have Gf := ge_new HS hg1; replace HS := HS.below hb; clear hg1 hb) | ((go_at_call 47); (with_reducible refine (wigwagref05_count.calls K N _ hN).mono ?_); rintro e w' ⟨rfl, hd⟩; have hb := hd.below; replace HS := HS.below hb; replace Bf := Bf.below hb; clear hb hd) | ((go_at_call 46); (with_reducible refine (wigwagref05_take.calls k A c l N [] 0 false _ (Kd.C_below h0 HS.out) hc T1).mono ?_); rintro e w' ⟨vU1, rfl, o1, hb⟩; have U1 : NU w w' vU1 _ := ⟨Kd.R_lower o1 HS.le⟩; replace HS := HS.below hb; replace Bf := Bf.below hb; clear hb o1) | ((with_reducible refine gate_ (.store 27 (.tmp 6) (.tmp 35)) rfl ?_); refine seg_store rfl rfl 27 (.tmp 6) (.tmp 35) rfl gf 0 [.int .i64 0, .int .u64 0, .int .u64 0, .int .u64 0, .int .u64 0, .int .u64 0, .int .u64 0, .bool false, .slice none 0 0, .slice none 0 0] [.int .i64 0, .int .u64 0, .int .u64 0, .int .u64 0, .int .u64 0, .int .u64 0, .int .u64 0, .bool false, .slice none 0 0, .slice none 0 0] (.agg #[.int .i64 0, .int .u64 0, .int .u64 0, .int .u64 0, .int .u64 0, .int .u64 0, .int .u64 0, .bool false, .slice none 0 0, .slice none 0 0]) rfl rfl rfl Bf (by kernel_rfl) (nle rfl) rfl rfl ?_; intro w' Bq hg; replace U1 := U1.grown Bf (by decide) hg; replace HS := HS.grown hg Gf; clear Bf; have Bf := Bq; clear Bq hg))
 refine bodyPost_ret (results_ctt rfl _ _ gf 27 _ (0, 0) _ rfl Bf.out hu27 rfl (by kernel_rfl)) rfl ?_
 exact ⟨rfl, HS.out⟩
theorem rbeh_plain (k : Nat) (fin : Bool) (A : Option Addr) (c : Nat) (l : List Int) (w : World) (h0 : Kd.C (Kd.int .u8) w A l.length l) (hc : l.length ≤ c) (K N : Int) (k2 : (K == 2) = false) (k3 : (K == 3) = false) (hN : wigwagref05_count.f K = some N) (k14 : (K != 14) = true) (vs : List Int) (n1 : Int) (T1 : wigwagref05_take.f k l N = some (vs, n1, true)) (p0 p1 p2 p3 p4 p5 p6 : Int) (p7 : Bool) (hP : wigwagref05_plain.f K vs = some (p0, p1, p2, p3, p4, p5, p6, p7, [], []))  :
  Calls Try.prog 36 #[.int .i64 K, .bool fin, .slice A l.length c] w fun e w' => ∃ A8 c8 A9 c9, e = .returned (.tuple #[.agg #[.int .i64 p0, .int .u64 p1, .int .u64 p2, .int .u64 p3, .int .u64 p4, .int .u64 p5, .int .u64 p6, .bool p7, .slice A8 0 c8, .slice A9 0 c9], .int .i64 n1, .bool true]) ∧ OW w w' (.slice A8 0 c8) [] ∧ SR w.heap.size w' (.slice A9 0 c9) [] ∧ Below w.heap.size w w' := by
 have hu27 := Try.underlying27
 have HS := Since.refl w
 go_enter Try.func36, Try.ntmps36
 go_wp2_with (first | ((with_reducible refine gate_dst (N := 6) rfl ?_); (try (refine gate_guard (by rfl) ?_; dsimp only)); refine seg_new rfl (N := 6) rfl [.int .i64 0, .int .u64 0, .int .u64 0, .int .u64 0, .int .u64 0, .int .u64 0, .int .u64 0, .bool false, .slice none 0 0, .slice none 0 0] 27 ?hr ?_; (case hr => rfl); intro gf hg1 w' Bf hb; have Gf := ge_new HS hg1; replace HS := HS.below hb; clear hg1 hb) | ((go_at_call 47); (with_reducible refine (wigwagref05_count.calls K N _ hN).mono ?_); rintro e w' ⟨rfl, hd⟩; have hb := hd.below; replace HS := HS.below hb; replace Bf := Bf.below hb; clear hb hd) | ((go_at_call 46); (with_reducible refine (wigwagref05_take.calls k A c l N vs n1 true _ (Kd.C_below h0 HS.out) hc T1).mono ?_); rintro e w' ⟨vU1, rfl, o1, hb⟩; have U1 : NU w w' vU1 _ := ⟨Kd.R_lower o1 HS.le⟩; replace HS := HS.below hb; replace Bf := Bf.below hb; clear hb o1; obtain ⟨AU1, cU1, rfl⟩ := Kd.R_slice U1.out) | ((go_at_call 48); (with_reducible refine (wigwagref05_plain.calls K _ _ vs p0 p1 p2 p3 p4 p5 p6 p7 [] [] _ (Kd.R_reads' U1.out).2.2 (Kd.R_reads' U1.out).2.1 hP).mono ?_); rintro e w' ⟨v8, v9, rfl, o8, o9, hb⟩; have O8 : OW w w' v8 [] := ⟨Kd.R_lower o8 HS.le⟩; have S9 : SR w.heap.size w' v9 [] := (SR.of o9).lower HS.le; replace HS := HS.below hb; replace U1 := U1.below hb; replace Bf := Bf.below hb; clear hb o8 o9; obtain ⟨A8, c8, e8⟩ := Kd.R_slice O8.out; obtain ⟨A9, c9, e9⟩ := Kd.R_slice S9.to; replace e8 : v8 = .slice A8 0 c8 := e8; replace e9 : v9 = .slice A9 0 c9 := e9; subst e8; subst e9) | ((with_reducible refine gate_dst (N := 12) rfl ?_); (try (refine gate_guard (by rfl) ?_; dsimp only)); refine seg_new rfl (N := 12) rfl [.int .i64 0, .int .u64 0, .int .u64 0, .int .u64 0, .int .u64 0, .int .u64 0, .int .u64 0, .bool false, .slice none 0 0, .slice none 0 0] 27 ?hr ?_; (case hr => rfl); intro gn hg1 w' Bn hb; have Gn := ge_new HS hg1; have Nn_f := ne_new Bf hg1; replace HS := HS.below hb; replace U1 := U1.below hb; replace O8 := O8.below hb; replace S9 := S9.below hb; replace Bf := Bf.below hb; clear hg1 hb) | ((with_reducible refine gate_ (.store 27 (.tmp 12) (.tmp 38)) rfl ?_); refine seg_store rfl rfl 27 (.tmp 12) (.tmp 38) rfl gn 0 [.int .i64 p0, .int .u64 p1, .int .u64 p2, .int .u64 p3, .int .u64 p4, .int .u64 p5, .int .u64 p6, .bool p7, .slice A8 0 c8, .slice A9 0 c9] [.int .i64 p0, .int .u64 p1, .int .u64 p2, .int .u64 p3, .int .u64 p4, .int .u64 p5, .int .u64 p6, .bool p7, .slice A8 0 c8, .slice A9 0 c9] (.agg #[.int .i64 p0, .int .u64 p1, .int .u64 p2, .int .u64 p3, .int .u64 p4, .int .u64 p5, .int .u64 p6, .bool p7, .slice A8 0 c8, .slice A9 0 c9]) rfl rfl rfl Bn (by kernel_rfl) (nle rfl) rfl rfl ?_; intro w' Bq hg; replace U1 := U1.grown Bn (by decide) hg; replace O8 := O8.grown Bn (by decide) hg; replace S9 := S9.grown Bn (by decide) hg; replace Bf := Bf.grown hg Nn_f.symm; replace HS := HS.grown hg Gn; clear Bn; have Bn := Bq; clear Bq hg) | ((with_reducible refine gate_dst (N := 41) rfl ?_); (try (refine gate_guard (by rfl) ?_; dsimp only)); refine seg_load rfl (N := 41) rfl 27 (.tmp 12) rfl gn 0 [.int .i64 p0, .int .u64 p1, .int .u64 p2, .int .u64 p3, .int .u64 p4, .int .u64 p5, .int .u64 p6, .bool p7, .slice A8 0 c8, .slice A9 0 c9] rfl Bn rfl Try.underlying27 rfl (by kernel_rfl) ?_) | ((with_reducible refine gate_ (.store 27 (.tmp 6) (.tmp 41)) rfl ?_); refine seg_store rfl rfl 27 (.tmp 6) (.tmp 41) rfl gf 0 [.int .i64 p0, .int .u64 p1, .int .u64 p2, .int .u64 p3, .int .u64 p4, .int .u64 p5, .int .u64 p6, .bool p7, .slice A8 0 c8, .slice A9 0 c9] [.int .i64 p0, .int .u64 p1, .int .u64 p2, .int .u64 p3, .int .u64 p4, .int .u64 p5, .int .u64 p6, .bool p7, .slice A8 0 c8, .slice A9 0 c9] (.agg #[.int .i64 p0, .int .u64 p1, .int .u64 p2, .int .u64 p3, .int .u64 p4, .int .u64 p5, .int .u64 p6, .bool p7, .slice A8 0 c8, .slice A9 0 c9]) rfl rfl rfl Bf (by kernel_rfl) (nle rfl) rfl rfl ?_; intro w' Bq hg; replace U1 := U1.grown Bf (by decide) hg; replace O8 := O8.grown Bf (by decide) hg; replace S9 := S9.grown Bf (by decide) hg; replace Bn := Bn.grown hg Nn_f; replace HS := HS.grown hg Gf; clear Bf; have Bf := Bq; clear Bq hg))
 refine bodyPost_ret (results_ctt rfl _ _ gf 27 _ (0, 0) _ rfl Bf.out hu27 rfl (by kernel_rfl)) rfl ?_
 exact ⟨A8, c8, A9, c9, rfl, O8, S9, HS.out⟩
theorem cutLH {A : Option Addr} {c : Nat} {l : List Int} {lo hi : Int} (h0 : 0 ≤ lo) (h1 : lo ≤ hi) (h2 : hi ≤ l.length) (hc : l.length ≤ c) {r : List Int} (hr : r = (l.drop lo.toNat).take (hi - lo).toNat) :
  ∃ A' c', (∀ W : World, (Instr.slice 24 (.slice A l.length c) (some (.int .i64 lo)) (some (.int .i64 hi)) none).run Try.prog W = .ok (.slice A' r.length c') W) ∧ (∀ w, Kd.C (Kd.int .u8) w A l.length l → Kd.C (Kd.int .u8) w A' r.length r) ∧ r.length ≤ c' := by
 obtain ⟨i0, hi0, _, hsz, _⟩ := info_parts info5
 have hel : Try.prog.elem 24 = 5 := by simp [Program.elem, Try.underlying24]
 have hu : Try.prog.underlying 24 = some (.slice (Try.prog.elem 24)) := by rw [hel]; exact Try.underlying24
 have hlr : r.length = hi.toNat - lo.toNat := by rw [hr, List.length_take, List.length_drop]; omega
 refine ⟨if c = lo.toNat then A else A.map (·.add lo.toNat), c - lo.toNat, fun W => ?_, fun w h => ?_, by omega⟩
 ·rw [run_slice_lh W 24 A l.length c hu .i64 .i64 lo hi h0 h1 (by omega), hel]
  simp [sizeOf, typeInfo, hi0, hsz, sliced, Result.andThen, hlr]
 ·have hd := (Kd.reads_of_C (d := (0 : Int)) h).drop_ lo.toNat (by omega) hc
  have ht := hd.take_ (hi.toNat - lo.toNat) (by omega)
  rw [hlr, hr, show (hi - lo).toNat = hi.toNat - lo.toNat from by omega]
  exact Kd.C_of_reads (h1 := fun _ => rfl) ht
theorem rbeh_long (k : Nat) (fin : Bool) (A : Option Addr) (c : Nat) (l : List Int) (w : World) (h0 : Kd.C (Kd.int .u8) w A l.length l) (hc : l.length ≤ c) (si so sn n1 : Int) (hN : wigwagref05_count.f 14 = some 3) (T1 : wigwagref05_take.f k l 3 = some ([si, so, sn], n1, true)) (p0 p1 p2 p3 p4 p5 p6 : Int) (p7 : Bool) (hP : wigwagref05_plain.f 14 [si, so, sn] = some (p0, p1, p2, p3, p4, p5, p6, p7, [], [])) (e5 : decide (1200 < sn) = true) :
  Calls Try.prog 36 #[.int .i64 14, .bool fin, .slice A l.length c] w fun e w' => e = .returned (.tuple #[.agg #[.int .i64 0, .int .u64 0, .int .u64 0, .int .u64 0, .int .u64 0, .int .u64 0, .int .u64 0, .bool false, .slice none 0 0, .slice none 0 0], .int .i64 0, .bool false]) ∧ Below w.heap.size w w' := by
 have hu27 := Try.underlying27
 have HS := Since.refl w
 go_enter Try.func36, Try.ntmps36
 go_wp2_with (first | ((with_reducible refine gate_dst (N := 6) rfl ?_); (try (refine gate_guard (by rfl) ?_; dsimp only)); refine seg_new rfl (N := 6) rfl [.int .i64 0, .int .u64 0, .int .u64 0, .int .u64 0, .int .u64 0, .int .u64 0, .int .u64 0, .bool false, .slice none 0 0, .slice none 0 0] 27 ?hr ?_; (case hr => rfl); intro gf hg1 w' Bf hb; have Gf := ge_new HS hg1; replace HS := HS.below hb; clear hg1 hb) | ((go_at_call 47); (with_reducible refine (wigwagref05_count.calls 14 3 _ hN).mono ?_); rintro e w' ⟨rfl, hd⟩; have hb := hd.below; replace HS := HS.below hb; replace Bf := Bf.below hb; clear hb hd) | ((go_at_call 46); (with_reducible refine (wigwagref05_take.calls k A c l 3 [si, so, sn] n1 true _ (Kd.C_below h0 HS.out) hc T1).mono ?_); rintro e w' ⟨vU1, rfl, o1, hb⟩; have U1 : NU w w' vU1 _ := ⟨Kd.R_lower o1 HS.le⟩; replace HS := HS.below hb; replace Bf := Bf.below hb; clear hb o1; obtain ⟨adU1, cU1, rfl⟩ := U1.open (by simp)) | ((go_at_call 48); (have hcc := wigwagref05_plain.calls 14 _ _ [si, so, sn] p0 p1 p2 p3 p4 p5 p6 p7 [] [] _ (Kd.R_reads' U1.out).2.2 (Kd.R_reads' U1.out).2.1 hP; simp only [List.length_cons, List.length_nil, Nat.zero_add, Nat.reduceAdd] at hcc); (with_reducible refine hcc.mono ?_); rintro e w' ⟨v8, v9, rfl, o8, o9, hb⟩; have O8 : OW w w' v8 [] := ⟨Kd.R_lower o8 HS.le⟩; have S9 : SR w.heap.size w' v9 [] := (SR.of o9).lower HS.le; replace HS := HS.below hb; replace U1 := U1.below hb; replace Bf := Bf.below hb; clear hb o8 o9; obtain ⟨A8, c8, e8⟩ := Kd.R_slice O8.out; obtain ⟨A9, c9, e9⟩ := Kd.R_slice S9.to; replace e8 : v8 = .slice A8 0 c8 := e8; replace e9 : v9 = .slice A9 0 c9 := e9; subst e8; subst e9) | ((with_reducible refine gate_dst (N := 12) rfl ?_); (try (refine gate_guard (by rfl) ?_; dsimp only)); refine seg_new rfl (N := 12) rfl [.int .i64 0, .int .u64 0, .int .u64 0, .int .u64 0, .int .u64 0, .int .u64 0, .int .u64 0, .bool false, .slice none 0 0, .slice none 0 0] 27 ?hr ?_; (case hr => rfl); intro gn hg1 w' Bn hb; have Gn := ge_new HS hg1; have Nn_f := ne_new Bf hg1; replace HS := HS.below hb; replace U1 := U1.below hb; replace O8 := O8.below hb; replace S9 := S9.below hb; replace Bf := Bf.below hb; clear hg1 hb) | ((with_reducible refine gate_ (.store 27 (.tmp 12) (.tmp 38)) rfl ?_); refine seg_store rfl rfl 27 (.tmp 12) (.tmp 38) rfl gn 0 [.int .i64 p0, .int .u64 p1, .int .u64 p2, .int .u64 p3, .int .u64 p4, .int .u64 p5, .int .u64 p6, .bool p7, .slice A8 0 c8, .slice A9 0 c9] [.int .i64 p0, .int .u64 p1, .int .u64 p2, .int .u64 p3, .int .u64 p4, .int .u64 p5, .int .u64 p6, .bool p7, .slice A8 0 c8, .slice A9 0 c9] (.agg #[.int .i64 p0, .int .u64 p1, .int .u64 p2, .int .u64 p3, .int .u64 p4, .int .u64 p5, .int .u64 p6, .bool p7, .slice A8 0 c8, .slice A9 0 c9]) rfl rfl rfl Bn (by kernel_rfl) (nle rfl) rfl rfl ?_; intro w' Bq hg; replace U1 := U1.grown Bn (by decide) hg; replace O8 := O8.grown Bn (by decide) hg; replace S9 := S9.grown Bn (by decide) hg; replace Bf := Bf.grown hg Nn_f.symm; replace HS := HS.grown hg Gn; clear Bn; have Bn := Bq; clear Bq hg; have y2 : w'.cell? ⟨adU1.block, adU1.off + 2, none⟩ = some (.int .u64 sn) := U1.cell 2 (x := sn) rfl) | ((with_reducible refine gate_ (.store 27 (.tmp 6) (.tmp 58)) rfl ?_); refine seg_store rfl rfl 27 (.tmp 6) (.tmp 58) rfl gf 0 [.int .i64 0, .int .u64 0, .int .u64 0, .int .u64 0, .int .u64 0, .int .u64 0, .int .u64 0, .bool false, .slice none 0 0, .slice none 0 0] [.int .i64 0, .int .u64 0, .int .u64 0, .int .u64 0, .int .u64 0, .int .u64 0, .int .u64 0, .bool false, .slice none 0 0, .slice none 0 0] (.agg #[.int .i64 0, .int .u64 0, .int .u64 0, .int .u64 0, .int .u64 0, .int .u64 0, .int .u64 0, .bool false, .slice none 0 0, .slice none 0 0]) rfl rfl rfl Bf (by kernel_rfl) (nle rfl) rfl rfl ?_; intro w' Bq hg; replace U1 := U1.grown Bf (by decide) hg; replace O8 := O8.grown Bf (by decide) hg; replace S9 := S9.grown Bf (by decide) hg; replace Bn := Bn.grown hg Nn_f; replace HS := HS.grown hg Gf; clear Bf; have Bf := Bq; clear Bq hg))
 refine bodyPost_ret (results_ctt rfl _ _ gf 27 _ (0, 0) _ rfl Bf.out hu27 rfl (by kernel_rfl)) rfl ?_
 exact ⟨rfl, HS.out⟩
theorem rbeh_short (k : Nat) (fin : Bool) (A : Option Addr) (c : Nat) (l : List Int) (w : World) (h0 : Kd.C (Kd.int .u8) w A l.length l) (hc : l.length ≤ c) (si so sn n1 : Int) (hN : wigwagref05_count.f 14 = some 3) (T1 : wigwagref05_take.f k l 3 = some ([si, so, sn], n1, true)) (p0 p1 p2 p3 p4 p5 p6 : Int) (p7 : Bool) (hP : wigwagref05_plain.f 14 [si, so, sn] = some (p0, p1, p2, p3, p4, p5, p6, p7, [], [])) (e5 : decide (1200 < sn) = false) (e6 : decide (IntKind.u64.wrap (wrap64 ((l.length : Int) - n1)) < sn) = true) :
  Calls Try.prog 36 #[.int .i64 14, .bool fin, .slice A l.length c] w fun e w' => e = .returned (.tuple #[.agg #[.int .i64 0, .int .u64 0, .int .u64 0, .int .u64 0, .int .u64 0, .int .u64 0, .int .u64 0, .bool false, .slice none 0 0, .slice none 0 0], .int .i64 0, .bool false]) ∧ Below w.heap.size w w' := by
 have hu27 := Try.underlying27
 have HS := Since.refl w
 go_enter Try.func36, Try.ntmps36
 go_wp2_with (first | ((with_reducible refine gate_dst (N := 6) rfl ?_); (try (refine gate_guard (by rfl) ?_; dsimp only)); refine seg_new rfl (N := 6) rfl [.int .i64 0, .int .u64 0, .int .u64 0, .int .u64 0, .int .u64 0, .int .u64 0, .int .u64 0, .bool false, .slice none 0 0, .slice none 0 0] 27 ?hr ?_; (case hr => rfl); intro gf hg1 w' Bf hb; have Gf := ge_new HS hg1; replace HS := HS.below hb; clear hg1 hb) | ((go_at_call 47); (with_reducible refine (wigwagref05_count.calls 14 3 _ hN).mono ?_); rintro e w' ⟨rfl, hd⟩; have hb := hd.below; replace HS := HS.below hb; replace Bf := Bf.below hb; clear hb hd) | ((go_at_call 46); (with_reducible refine (wigwagref05_take.calls k A c l 3 [si, so, sn] n1 true _ (Kd.C_below h0 HS.out) hc T1).mono ?_); rintro e w' ⟨vU1, rfl, o1, hb⟩; have U1 : NU w w' vU1 _ := ⟨Kd.R_lower o1 HS.le⟩; replace HS := HS.below hb; replace Bf := Bf.below hb; clear hb o1; obtain ⟨adU1, cU1, rfl⟩ := U1.open (by simp)) | ((go_at_call 48); (have hcc := wigwagref05_plain.calls 14 _ _ [si, so, sn] p0 p1 p2 p3 p4 p5 p6 p7 [] [] _ (Kd.R_reads' U1.out).2.2 (Kd.R_reads' U1.out).2.1 hP; simp only [List.length_cons, List.length_nil, Nat.zero_add, Nat.reduceAdd] at hcc); (with_reducible refine hcc.mono ?_); rintro e w' ⟨v8, v9, rfl, o8, o9, hb⟩; have O8 : OW w w' v8 [] := ⟨Kd.R_lower o8 HS.le⟩; have S9 : SR w.heap.size w' v9 [] := (SR.of o9).lower HS.le; replace HS := HS.below hb; replace U1 := U1.below hb; replace Bf := Bf.below hb; clear hb o8 o9; obtain ⟨A8, c8, e8⟩ := Kd.R_slice O8.out; obtain ⟨A9, c9, e9⟩ := Kd.R_slice S9.to; replace e8 : v8 = .slice A8 0 c8 := e8; replace e9 : v9 = .slice A9 0 c9 := e9; subst e8; subst e9) | ((with_reducible refine gate_dst (N := 12) rfl ?_); (try (refine gate_guard (by rfl) ?_; dsimp only)); refine seg_new rfl (N := 12) rfl [.int .i64 0, .int .u64 0, .int .u64 0, .int .u64 0, .int .u64 0, .int .u64 0, .int .u64 0, .bool false, .slice none 0 0, .slice none 0 0] 27 ?hr ?_; (case hr => rfl); intro gn hg1 w' Bn hb; have Gn := ge_new HS hg1; have Nn_f := ne_new Bf hg1; replace HS := HS.below hb; replace U1 := U1.below hb; replace O8 := O8.below hb; replace S9 := S9.below hb; replace Bf := Bf.below hb; clear hg1 hb) | ((with_reducible refine gate_ (.store 27 (.tmp 12) (.tmp 38)) rfl ?_); refine seg_store rfl rfl 27 (.tmp 12) (.tmp 38) rfl gn 0 [.int .i64 p0, .int .u64 p1, .int .u64 p2, .int .u64 p3, .int .u64 p4, .int .u64 p5, .int .u64 p6, .bool p7, .slice A8 0 c8, .slice A9 0 c9] [.int .i64 p0, .int .u64 p1, .int .u64 p2, .int .u64 p3, .int .u64 p4, .int .u64 p5, .int .u64 p6, .bool p7, .slice A8 0 c8, .slice A9 0 c9] (.agg #[.int .i64 p0, .int .u64 p1, .int .u64 p2, .int .u64 p3, .int .u64 p4, .int .u64 p5, .int .u64 p6, .bool p7, .slice A8 0 c8, .slice A9 0 c9]) rfl rfl rfl Bn (by kernel_rfl) (nle rfl) rfl rfl ?_; intro w' Bq hg; replace U1 := U1.grown Bn (by decide) hg; replace O8 := O8.grown Bn (by decide) hg; replace S9 := S9.grown Bn (by decide) hg; replace Bf := Bf.grown hg Nn_f.symm; replace HS := HS.grown hg Gn; clear Bn; have Bn := Bq; clear Bq hg; have y2 : w'.cell? ⟨adU1.block, adU1.off + 2, none⟩ = some (.int .u64 sn) := U1.cell 2 (x := sn) rfl) | ((with_reducible refine gate_ (.store 27 (.tmp 6) (.tmp 58)) rfl ?_); refine seg_store rfl rfl 27 (.tmp 6) (.tmp 58) rfl gf 0 [.int .i64 0, .int .u64 0, .int .u64 0, .int .u64 0, .int .u64 0, .int .u64 0, .int .u64 0, .bool false, .slice none 0 0, .slice none 0 0] [.int .i64 0, .int .u64 0, .int .u64 0, .int .u64 0, .int .u64 0, .int .u64 0, .int .u64 0, .bool false, .slice none 0 0, .slice none 0 0] (.agg #[.int .i64 0, .int .u64 0, .int .u64 0, .int .u64 0, .int .u64 0, .int .u64 0, .int .u64 0, .bool false, .slice none 0 0, .slice none 0 0]) rfl rfl rfl Bf (by kernel_rfl) (nle rfl) rfl rfl ?_; intro w' Bq hg; replace U1 := U1.grown Bf (by decide) hg; replace O8 := O8.grown Bf (by decide) hg; replace S9 := S9.grown Bf (by decide) hg; replace Bn := Bn.grown hg Nn_f; replace HS := HS.grown hg Gf; clear Bf; have Bf := Bq; clear Bq hg))
 refine bodyPost_ret (results_ctt rfl _ _ gf 27 _ (0, 0) _ rfl Bf.out hu27 rfl (by kernel_rfl)) rfl ?_
 exact ⟨rfl, HS.out⟩
theorem rbeh_ok (k : Nat) (fin : Bool) (A : Option Addr) (c : Nat) (l : List Int) (w : World) (h0 : Kd.C (Kd.int .u8) w A l.length l) (hc : l.length ≤ c) (si so sn n1 : Int) (hN : wigwagref05_count.f 14 = some 3) (T1 : wigwagref05_take.f k l 3 = some ([si, so, sn], n1, true)) (p0 p1 p2 p3 p4 p5 p6 : Int) (p7 : Bool) (hP : wigwagref05_plain.f 14 [si, so, sn] = some (p0, p1, p2, p3, p4, p5, p6, p7, [], [])) (e5 : decide (1200 < sn) = false) (e6 : decide (IntKind.u64.wrap (wrap64 ((l.length : Int) - n1)) < sn) = false) (A4 : Option Addr) (c4 : Nat) (dd : List Int) (hcut : ∀ W : World, (Instr.slice 24 (.slice A l.length c) (some (.int .i64 n1)) (some (.int .i64 (wrap64 (n1 + wrap64 sn)))) none).run Try.prog W = .ok (.slice A4 dd.length c4) W) (hA4 : ∀ w, Kd.C (Kd.int .u8) w A l.length l → Kd.C (Kd.int .u8) w A4 dd.length dd) (hdd : dd.length ≤ 1200)  :
  Calls Try.prog 36 #[.int .i64 14, .bool fin, .slice A l.length c] w fun e w' => ∃ A8 c8 A9 c9, e = .returned (.tuple #[.agg #[.int .i64 p0, .int .u64 p1, .int .u64 p2, .int .u64 p3, .int .u64 p4, .int .u64 p5, .int .u64 p6, .bool fin, .slice A8 dd.length c8, .slice A9 0 c9], .int .i64 (wrap64 (n1 + wrap64 sn)), .bool true]) ∧ OW w w' (.slice A8 dd.length c8) dd ∧ SR w.heap.size w' (.slice A9 0 c9) [] ∧ Below w.heap.size w w' := by
 have hu27 := Try.underlying27
 have HS := Since.refl w
 go_enter Try.func36, Try.ntmps36
 go_wp2_with (first | ((with_reducible refine gate_dst (N := 6) rfl ?_); (try (refine gate_guard (by rfl) ?_; dsimp only)); refine seg_new rfl (N := 6) rfl [.int .i64 0, .int .u64 0, .int .u64 0, .int .u64 0, .int .u64 0, .int .u64 0, .int .u64 0, .bool false, .slice none 0 0, .slice none 0 0] 27 ?hr ?_; (case hr => rfl); intro gf hg1 w' Bf hb; have Gf := ge_new HS hg1; replace HS := HS.below hb; clear hg1 hb) | ((go_at_call 47); (with_reducible refine (wigwagref05_count.calls 14 3 _ hN).mono ?_); rintro e w' ⟨rfl, hd⟩; have hb := hd.below; replace HS := HS.below hb; replace Bf := Bf.below hb; clear hb hd) | ((go_at_call 46); (with_reducible refine (wigwagref05_take.calls k A c l 3 [si, so, sn] n1 true _ (Kd.C_below h0 HS.out) hc T1).mono ?_); rintro e w' ⟨vU1, rfl, o1, hb⟩; have U1 : NU w w' vU1 _ := ⟨Kd.R_lower o1 HS.le⟩; replace HS := HS.below hb; replace Bf := Bf.below hb; clear hb o1; obtain ⟨adU1, cU1, rfl⟩ := U1.open (by simp)) | ((go_at_call 48); (have hcc := wigwagref05_plain.calls 14 _ _ [si, so, sn] p0 p1 p2 p3 p4 p5 p6 p7 [] [] _ (Kd.R_reads' U1.out).2.2 (Kd.R_reads' U1.out).2.1 hP; simp only [List.length_cons, List.length_nil, Nat.zero_add, Nat.reduceAdd] at hcc); (with_reducible refine hcc.mono ?_); rintro e w' ⟨v8, v9, rfl, o8, o9, hb⟩; have O8 : OW w w' v8 [] := ⟨Kd.R_lower o8 HS.le⟩; have S9 : SR w.heap.size w' v9 [] := (SR.of o9).lower HS.le; replace HS := HS.below hb; replace U1 := U1.below hb; replace Bf := Bf.below hb; clear hb o8 o9; obtain ⟨A8, c8, e8⟩ := Kd.R_slice O8.out; obtain ⟨A9, c9, e9⟩ := Kd.R_slice S9.to; replace e8 : v8 = .slice A8 0 c8 := e8; replace e9 : v9 = .slice A9 0 c9 := e9; subst e8; subst e9) | ((with_reducible refine gate_dst (N := 12) rfl ?_); (try (refine gate_guard (by rfl) ?_; dsimp only)); refine seg_new rfl (N := 12) rfl [.int .i64 0, .int .u64 0, .int .u64 0, .int .u64 0, .int .u64 0, .int .u64 0, .int .u64 0, .bool false, .slice none 0 0, .slice none 0 0] 27 ?hr ?_; (case hr => rfl); intro gn hg1 w' Bn hb; have Gn := ge_new HS hg1; have Nn_f := ne_new Bf hg1; replace HS := HS.below hb; replace U1 := U1.below hb; replace O8 := O8.below hb; replace S9 := S9.below hb; replace Bf := Bf.below hb; clear hg1 hb) | ((with_reducible refine gate_ (.store 27 (.tmp 12) (.tmp 38)) rfl ?_); refine seg_store rfl rfl 27 (.tmp 12) (.tmp 38) rfl gn 0 [.int .i64 p0, .int .u64 p1, .int .u64 p2, .int .u64 p3, .int .u64 p4, .int .u64 p5, .int .u64 p6, .bool p7, .slice A8 0 c8, .slice A9 0 c9] [.int .i64 p0, .int .u64 p1, .int .u64 p2, .int .u64 p3, .int .u64 p4, .int .u64 p5, .int .u64 p6, .bool p7, .slice A8 0 c8, .slice A9 0 c9] (.agg #[.int .i64 p0, .int .u64 p1, .int .u64 p2, .int .u64 p3, .int .u64 p4, .int .u64 p5, .int .u64 p6, .bool p7, .slice A8 0 c8, .slice A9 0 c9]) rfl rfl rfl Bn (by kernel_rfl) (nle rfl) rfl rfl ?_; intro w' Bq hg; replace U1 := U1.grown Bn (by decide) hg; replace O8 := O8.grown Bn (by decide) hg; replace S9 := S9.grown Bn (by decide) hg; replace Bf := Bf.grown hg Nn_f.symm; replace HS := HS.grown hg Gn; clear Bn; have Bn := Bq; clear Bq hg; have y2 : w'.cell? ⟨adU1.block, adU1.off + 2, none⟩ = some (.int .u64 sn) := U1.cell 2 (x := sn) rfl) | ((with_reducible refine gate_ (.store 4 (.tmp 60) (.tmp 59)) rfl ?_); refine seg_store rfl rfl 4 (.tmp 60) (.tmp 59) rfl gn 7 [.bool fin] [.int .i64 p0, .int .u64 p1, .int .u64 p2, .int .u64 p3, .int .u64 p4, .int .u64 p5, .int .u64 p6, .bool fin, .slice A8 0 c8, .slice A9 0 c9] (.bool fin) rfl rfl rfl Bn (by kernel_rfl) (nle rfl) rfl rfl ?_; intro w' Bq hg; replace U1 := U1.grown Bn (by decide) hg; replace O8 := O8.grown Bn (by decide) hg; replace S9 := S9.grown Bn (by decide) hg; replace Bf := Bf.grown hg Nn_f.symm; replace HS := HS.grown hg Gn; clear Bn; have Bn := Bq; clear Bq hg; have y2 : w'.cell? ⟨adU1.block, adU1.off + 2, none⟩ = some (.int .u64 sn) := U1.cell 2 (x := sn) rfl) | ((with_reducible refine gate_dst (N := 61) rfl ?_); (try (refine gate_guard (by rfl) ?_; dsimp only)); refine Kd.R_lit (Kd.int .u8) _ 5 ?hg (N := 61) ?hd (xs := ([] : List Int)) (inner := []) (ok := fun _ => True) (okp := fun _ => True) ?hr ?hp (fun _ hk => hk) trivial (Below.refl _ _) (Nat.le_refl _) (by simp) ?_; (case hd => rfl); (case hg => rfl); (case hr => first | (go_simp; done) | (go_simp; rfl)); (case hp => exact (Reps.none _ _)); intro v1_ w1_ ho1 hb1 hg1_ hnew_; clear hg1_ hnew_; have y2 : w1_.cell? ⟨adU1.block, adU1.off + 2, none⟩ = some (.int .u64 sn) := (U1.below hb1).cell 2 (x := sn) rfl) | ((with_reducible refine gate_builtin (b := .append) (xs := #[.tmp 61, .tmp 70]) rfl ?_); at_builtin; refine Kd.R_append_rows (Kd.int .u8) (w0 := w') w'.heap.size rfl (.tmp 61) (.tmp 70) 24 5 (.int .u8 0) 1 rfl Try.underlying24 info5 rfl (by decide) (by omega) v1_ [] dd _ _ _ (fun _ => True) (fun _ => False) rfl rfl ?aO ?aR (fun _ _ h => h) (fun _ h => h.elim) (fun _ _ => trivial) ?aB ?aS ?aL ?_; (case aO => exact ho1); (case aR => exact Kd.C_below (hA4 _ (Kd.C_below h0 HS.out)) hb1); (case aB => exact hb1); (case aS => exact below_size hb1); (case aL => first | omega | (simp; omega)); intro v2_ w' ho2 hb hg_ hat_; clear hg_ hat_; replace ho2 := Kd.R_lower ho2 HS.le; have OD : OW w w' v2_ dd := ⟨by simpa using ho2⟩; replace HS := HS.below hb; replace U1 := U1.below hb; replace O8 := O8.below hb; replace S9 := S9.below hb; replace Bf := Bf.below hb; replace Bn := Bn.below hb; clear hb hb1 ho1 ho2; obtain ⟨Ad, cd, rfl⟩ := Kd.R_slice OD.out) | ((with_reducible refine gate_ (.store 24 (.tmp 72) (.tmp 71)) rfl ?_); refine seg_store rfl rfl 24 (.tmp 72) (.tmp 71) rfl gn 8 [.slice Ad dd.length cd] [.int .i64 p0, .int .u64 p1, .int .u64 p2, .int .u64 p3, .int .u64 p4, .int .u64 p5, .int .u64 p6, .bool fin, .slice Ad dd.length cd, .slice A9 0 c9] (.slice Ad dd.length cd) rfl rfl rfl Bn (by kernel_rfl) (nle rfl) rfl rfl ?_; intro w' Bq hg; replace U1 := U1.grown Bn (by decide) hg; replace O8 := O8.grown Bn (by decide) hg; replace S9 := S9.grown Bn (by decide) hg; replace OD := OD.grown Bn (by decide) hg; replace Bf := Bf.grown hg Nn_f.symm; replace HS := HS.grown hg Gn; clear Bn; have Bn := Bq; clear Bq hg))
 refine start_ (n := 10) (S := fun w' => w'.cell? ⟨adU1.block, adU1.off + 2, none⟩ = some (.int .u64 sn) ∧ Blk w' gn 27 [.int .i64 p0, .int .u64 p1, .int .u64 p2, .int .u64 p3, .int .u64 p4, .int .u64 p5, .int .u64 p6, .bool fin, .slice Ad dd.length cd, .slice A9 0 c9]) (ds := []) (bs 10 0) (by kernel_rfl) rfl rfl ⟨U1.drew.cell 2 (x := sn) rfl, Bn.drew⟩ (fun hHeld => ?_)
 have U1' := U1.drew; clear U1; have U1 := U1'; clear U1'
 have Bf' := Bf.drew; clear Bf; have Bf := Bf'; clear Bf'
 have Bn' := Bn.drew; clear Bn; have Bn := Bn'; clear Bn'
 have HS' := HS.drew; clear HS; have HS := HS'; clear HS'
 have OD' := OD.below (below_drew1 (Below.refl _ _)); clear OD; have OD := OD'; clear OD'
 have S9' := S9.below (below_drew1 (Below.refl _ _)); clear S9; have S9 := S9'; clear S9'
 generalize World.drew w' = w' at U1 Bf Bn HS OD S9 hHeld ⊢
 refine take_ (i := 0) (N := some 73) (v := .agg #[.int .i64 p0, .int .u64 p1, .int .u64 p2, .int .u64 p3, .int .u64 p4, .int .u64 p5, .int .u64 p6, .bool fin, .slice Ad dd.length cd, .slice A9 0 c9]) (a' := ?_) (bs 10 1) rfl rfl (by kernel_rfl) (fun _ _ _ h => h) (Or.inl ⟨by rfl, ?_⟩) hHeld ?_ ?_
 ·intro w' hs
  exact exec_seg_load 27 (.tmp 12) (by rfl) gn 0 [.int .i64 p0, .int .u64 p1, .int .u64 p2, .int .u64 p3, .int .u64 p4, .int .u64 p5, .int .u64 p6, .bool fin, .slice Ad dd.length cd, .slice A9 0 c9] (by rfl) hs.2 (by rfl) Try.underlying27 rfl (by kernel_rfl)
 rotate_left
 ·simp only [Act.put, qA_, q0_, q1_, i64_w, i32_w]
  rfl
 refine pure_ (i := 1) (N := some 74) (v := ?_) (a' := ?_) (bs 10 3) rfl rfl (by kernel_rfl) (fun _ _ _ h => h) (Or.inl ⟨by rfl, ?_⟩) ?_ ?_
 rotate_left
 ·intro w'
  go_simp
  with_reducible rfl
 rotate_left
 ·simp only [Act.put, qA_, q0_, q1_, i64_w, i32_w]
  rfl
 refine pure_ (i := 2) (N := some 75) (v := ?_) (a' := ?_) (bs 10 7) rfl rfl (by kernel_rfl) (fun _ _ _ h => h) (Or.inl ⟨by rfl, ?_⟩) ?_ ?_
 rotate_left
 ·intro w'
  go_simp
  with_reducible rfl
 rotate_left
 ·simp only [Act.put, qA_, q0_, q1_, i64_w, i32_w]
  rfl
 refine pure_ (i := 3) (N := some 76) (v := ?_) (a' := ?_) (bs 10 15) rfl rfl (by kernel_rfl) (fun _ _ _ h => h) (Or.inl ⟨by rfl, ?_⟩) ?_ ?_
 rotate_left
 ·intro w'
  go_simp
  with_reducible rfl
 rotate_left
 ·simp only [Act.put, qA_, q0_, q1_, i64_w, i32_w]
  rfl
 refine take_ (i := 4) (N := some 77) (v := ?_) (a' := ?_) (bs 10 31) rfl rfl (by kernel_rfl) (fun _ _ _ h => h) (Or.inl ⟨by rfl, ?_⟩) hHeld ?_ ?_
 rotate_left
 ·intro w' hs
  have s0 := hs.1
  go_simp
  with_reducible rfl
 rotate_left
 ·simp only [Act.put, qA_, q0_, q1_, i64_w, i32_w]
  rfl
 refine pure_ (i := 5) (N := some 78) (v := ?_) (a' := ?_) (bs 10 63) rfl rfl (by kernel_rfl) (fun _ _ _ h => h) (Or.inl ⟨by rfl, ?_⟩) ?_ ?_
 rotate_left
 ·intro w'
  go_simp
  with_reducible rfl
 rotate_left
 ·simp only [Act.put, qA_, q0_, q1_, i64_w, i32_w]
  rfl
 refine pure_ (i := 6) (N := some 79) (v := ?_) (a' := ?_) (bs 10 127) rfl rfl (by kernel_rfl) (fun _ _ _ h => h) (Or.inl ⟨by rfl, ?_⟩) ?_ ?_
 rotate_left
 ·intro w'
  go_simp
  with_reducible rfl
 rotate_left
 ·simp only [Act.put, qA_, q0_, q1_, i64_w, i32_w]
  rfl
 refine one_ (i := 7) (N := none) (bs 10 255) rfl rfl (by kernel_rfl) (by decide) (fun K' hK => ?_)
 refine skip_seg (by rfl) rfl 27 (.tmp 6) (.tmp 73) rfl gf 0 [.int .i64 p0, .int .u64 p1, .int .u64 p2, .int .u64 p3, .int .u64 p4, .int .u64 p5, .int .u64 p6, .bool fin, .slice Ad dd.length cd, .slice A9 0 c9] [.int .i64 p0, .int .u64 p1, .int .u64 p2, .int .u64 p3, .int .u64 p4, .int .u64 p5, .int .u64 p6, .bool fin, .slice Ad dd.length cd, .slice A9 0 c9] _ rfl rfl rfl Bf (by kernel_rfl) (nle rfl) rfl rfl ?_
 intro w7 Bf7 hg7
 have Bn7 := Bn.grown hg7 Nn_f; have U7 := U1.grown Bf (by decide) hg7; have OD7 := OD.grown Bf (by decide) hg7; have S97 := S9.grown Bf (by decide) hg7; have HS7 := HS.grown hg7 Gf
 refine hK.out _ _ ⟨U7.cell 2 (x := sn) rfl, Bn7⟩ (fun hHeld => ?_)
 clear hK U1 Bf Bn OD S9 HS hg7
 refine pure_ (i := 8) (N := some 7) (v := ?_) (a' := ?_) (bs 10 511) rfl rfl (by kernel_rfl) (fun _ _ _ h => h) (Or.inl ⟨by rfl, ?_⟩) ?_ ?_
 rotate_left
 ·intro w'
  go_simp
  with_reducible rfl
 rotate_left
 ·simp only [Act.put, qA_, q0_, q1_, i64_w, i32_w]
  rfl
 refine pure_ (i := 9) (N := some 8) (v := ?_) (a' := ?_) (bs 10 1023) rfl rfl (by kernel_rfl) (fun _ _ _ h => h) (Or.inl ⟨by rfl, ?_⟩) ?_ ?_
 rotate_left
 ·intro w'
  go_simp
  with_reducible rfl
 rotate_left
 ·simp only [Act.put, qA_, q0_, q1_, i64_w, i32_w]
  rfl
 refine done_ (by kernel_rfl) ?_
 go_wp2
 refine bodyPost_ret (results_ctt rfl _ _ gf 27 _ (0, 0) _ rfl Bf7.out hu27 rfl (by kernel_rfl)) rfl ?_
 exact ⟨Ad, cd, A9, c9, rfl, OD7, S97, HS7.out⟩
theorem ackU_some {K : Int} {l : List Int} {f : Nat → Int} {fi : Bool} {d : List Int} {s : List S47} {r : List Int} (hK : K = 2 ∨ K = 3) (h : ackU K l = some (f, fi, d, s, r)) : fi = false ∧ d = [] ∧ f 1 = 0 ∧ f 2 = 0 ∧ f 3 = 0 ∧ f 4 = 0 := by
 unfold ackU at h
 obtain ⟨q1, _, h⟩ := Option.bind_eq_some_iff.1 h
 split at h
 ·obtain ⟨q2, _, h⟩ := Option.bind_eq_some_iff.1 h
  obtain ⟨s', _, h⟩ := Option.bind_eq_some_iff.1 h
  obtain ⟨q3, h3, h⟩ := Option.map_eq_some_iff.1 h
  simp only [Prod.mk.injEq] at h
  obtain ⟨rfl, rfl, rfl, rfl, rfl⟩ := h
  refine ⟨rfl, rfl, ?_⟩
  rcases hK with rfl | rfl
  ·rw [if_neg (by decide)]
   rcases q3.1 with _ | ⟨a, _ | ⟨b, t⟩⟩ <;> exact ⟨rfl, rfl, rfl, rfl⟩
  ·rw [if_pos rfl]
   rcases q3.1 with _ | ⟨a, _ | ⟨b, t⟩⟩ <;> exact ⟨rfl, rfl, rfl, rfl⟩
 ·cases h
theorem three_num {l : List Int} (h : l.length = 3) : ∃ a b c, l = [a, b, c] := by
 match l, h with
 | [a, b, c], _ => exact ⟨a, b, c, rfl⟩
theorem plain_f {K : Int} {os : List Nat} {vs : List Int} (ho : fOffs K = some os) (h2 : K ≠ 2) (h3 : K ≠ 3) (h14 : K ≠ 14) (hl : vs.length = os.length) :
  wigwagref05_count.f K = some (os.length : Int) ∧ ∃ g : Nat → Int, g = setL os vs (fun _ => 0) ∧ wigwagref05_plain.f K vs = some (K, g 1, g 2, g 3, g 4, g 5, g 6, false, [], []) := by
 rcases fOffs_cases ho with ⟨rfl | rfl | rfl, rfl⟩ | ⟨rfl, rfl⟩ | ⟨rfl, rfl⟩ | ⟨rfl, rfl⟩ | ⟨rfl, rfl⟩ | ⟨rfl, rfl⟩ | ⟨rfl, rfl⟩ | ⟨rfl | rfl | rfl, rfl⟩ | ⟨rfl | rfl, rfl⟩ | ⟨rfl, rfl⟩
 all_goals first
  | exact absurd rfl h2
  | exact absurd rfl h3
  | exact absurd rfl h14
  | (obtain rfl := List.length_eq_zero_iff.1 hl; exact ⟨rfl, _, rfl, rfl⟩)
  | (obtain ⟨a, rfl⟩ := one_num hl; exact ⟨rfl, _, rfl, rfl⟩)
  | (obtain ⟨a, b, rfl⟩ := two_num hl; exact ⟨rfl, _, rfl, rfl⟩)
  | (obtain ⟨a, b, c, rfl⟩ := three_num hl; exact ⟨rfl, _, rfl, rfl⟩)
def bhd (K : Int) (fin : Bool) (os : List Nat) (l : List Int) : Option BhV :=
 if K = 2 ∨ K = 3 then ackU K l
 else if K = 14 then (uTake 3 l).bind fun q => if rd q.1 2 ≤ 1200 ∧ rd q.1 2 ≤ q.2.length then some (setL [1, 2] q.1 (fun _ => 0), fin, q.2.take (rd q.1 2).toNat, [], q.2.drop (rd q.1 2).toNat) else none
 else (uTake os.length l).map fun q => (setL os q.1 (fun _ => 0), false, [], [], q.2)
def BhP (w : World) (K : Int) (l : List Int) : Option BhV → Ending → World → Prop
 | none, e, w' => e = .returned (.tuple #[.agg #[.int .i64 0, .int .u64 0, .int .u64 0, .int .u64 0, .int .u64 0, .int .u64 0, .int .u64 0, .bool false, .slice none 0 0, .slice none 0 0], .int .i64 0, .bool false]) ∧ Below w.heap.size w w'
 | some (f, fi, d, s, r), e, w' => ∃ A8 c8 A9 c9, e = .returned (.tuple #[.agg #[.int .i64 K, .int .u64 (f 1), .int .u64 (f 2), .int .u64 (f 3), .int .u64 (f 4), .int .u64 (f 5), .int .u64 (f 6), .bool fi, .slice A8 d.length c8, .slice A9 s.length c9], .int .i64 ((l.length : Int) - r.length), .bool true]) ∧ OW w w' (.slice A8 d.length c8) d ∧ SR w.heap.size w' (.slice A9 s.length c9) s ∧ Below w.heap.size w w'
theorem rbeh_calls (K : Int) (fin : Bool) (os : List Nat) (ho : fOffs K = some os) (A : Option Addr) (c : Nat) (l : List Int) (w : World) (h0 : Kd.C (Kd.int .u8) w A l.length l) (hc : l.length ≤ c) (hb : bytesOk l = true) (hl : l.length < 1000000) :
  Calls Try.prog 36 #[.int .i64 K, .bool fin, .slice A l.length c] w (BhP w K l (bhd K fin os l)) := by
 unfold bhd
 by_cases hk : K = 2 ∨ K = 3
 ·rw [if_pos hk]
  cases hU : ackU K l with
  | none => rcases hk with rfl | rfl; exact rbeh_ackno2 500 fin A c l w h0 hc hb hl hU; exact rbeh_ackno3 500 fin A c l w h0 hc hb hl hU
  | some v =>
   obtain ⟨f, fi, d, s, r⟩ := v
   obtain ⟨rfl, rfl, f1, f2, f3, f4⟩ := ackU_some hk hU
   rcases hk with rfl | rfl
   ·refine (rbeh_ackok2 500 fin A c l w h0 hc hb hl f false [] s r hU).mono ?_
    rintro e w' ⟨As, cs, rfl, hS, hB⟩
    exact ⟨none, 0, As, cs, by rw [f1, f2, f3, f4]; rfl, OW.nil _ _, hS, hB⟩
   ·refine (rbeh_ackok3 500 fin A c l w h0 hc hb hl f false [] s r hU).mono ?_
    rintro e w' ⟨As, cs, rfl, hS, hB⟩
    exact ⟨none, 0, As, cs, by rw [f1, f2, f3, f4]; rfl, OW.nil _ _, hS, hB⟩
 ·rw [if_neg hk]
  have k2 : (K == 2) = false := by simp; exact fun h => hk (.inl h)
  have k3 : (K == 3) = false := by simp; exact fun h => hk (.inr h)
  by_cases h14 : K = 14
  ·rw [if_pos h14]
   subst h14
   have T1 := take_eq (K := 500) hb hl (N := 3) (by omega) (by omega)
   cases hu : uTake 3 l with
   | none =>
    rw [hu] at T1
    exact rbeh_no 500 fin A c l w h0 hc 14 3 rfl rfl rfl T1
   | some q =>
    obtain ⟨vs, l1⟩ := q
    obtain ⟨n1, m1, b1, le1, d1⟩ := uTake_some 3 l vs l1 hb hu
    obtain ⟨si, so, sn, rfl⟩ := three_num n1
    have hsn := m1 sn (by simp)
    rw [hu] at T1
    have T1 : wigwagref05_take.f 500 l 3 = some ([si, so, sn], (l.length : Int) - l1.length, true) := T1
    have hr : rd [si, so, sn] 2 = sn := rfl
    have hP : wigwagref05_plain.f 14 [si, so, sn] = some (14, si, so, 0, 0, 0, 0, false, [], []) := rfl
    rw [Option.bind_some]
    simp only [hr]
    have ew : IntKind.u64.wrap (wrap64 ((l.length : Int) - ((l.length : Int) - l1.length))) = l1.length := by
     have e1 : wrap64 ((l.length : Int) - ((l.length : Int) - l1.length)) = l1.length := by unfold wrap64; omega
     rw [e1]
     exact w64 ⟨by omega, by omega⟩
    by_cases e5 : 1200 < sn
    ·rw [if_neg (by omega)]
     exact rbeh_long 500 fin A c l w h0 hc si so sn _ rfl T1 _ _ _ _ _ _ _ _ hP (decide_eq_true e5)
    by_cases e6 : (l1.length : Int) < sn
    ·rw [if_neg (by omega)]
     exact rbeh_short 500 fin A c l w h0 hc si so sn _ rfl T1 _ _ _ _ _ _ _ _ hP (decide_eq_false e5) (by rw [ew]; exact decide_eq_true e6)
    rw [if_pos ⟨by omega, by omega⟩]
    have es : wrap64 (((l.length : Int) - l1.length) + wrap64 sn) = (l.length : Int) - l1.length + sn := by unfold wrap64; omega
    have hdl : (l1.take sn.toNat).length = sn.toNat := by rw [List.length_take]; omega
    obtain ⟨A4, c4, hcut, hA4, hc4⟩ := cutLH (A := A) (c := c) (l := l) (lo := (l.length : Int) - l1.length) (hi := (l.length : Int) - l1.length + sn) (by omega) (by omega) (by omega) hc (r := l1.take sn.toNat) (by rw [← drop_to d1, show ((l.length : Int) - l1.length + sn - ((l.length : Int) - l1.length)).toNat = sn.toNat from by omega])
    rw [← es] at hcut
    refine (rbeh_ok 500 fin A c l w h0 hc si so sn _ rfl T1 _ _ _ _ _ _ _ _ hP (decide_eq_false e5) (by rw [ew]; exact decide_eq_false e6) A4 c4 _ hcut hA4 (by omega)).mono ?_
    rintro e w' ⟨A8, c8, A9, c9, rfl, hO, hS, hB⟩
    refine ⟨A8, c8, A9, c9, ?_, hO, hS, hB⟩
    rw [es, show (l.length : Int) - l1.length + sn = (l.length : Int) - ((l1.drop sn.toNat).length : Nat) from by rw [List.length_drop]; omega]
    rfl
  ·rw [if_neg h14]
   have T1 := take_eq (K := 500) hb hl (N := os.length) (by have := (fOffs_mem ho).2; omega) (by have := (fOffs_mem ho).2; omega)
   cases hu : uTake os.length l with
   | none =>
    rw [hu] at T1
    obtain ⟨hN, _⟩ := plain_f (vs := List.replicate os.length 0) ho (fun h => hk (.inl h)) (fun h => hk (.inr h)) h14 (by simp)
    exact rbeh_no 500 fin A c l w h0 hc K _ k2 k3 hN T1
   | some q =>
    obtain ⟨vs, l1⟩ := q
    obtain ⟨n1, m1, b1, le1, d1⟩ := uTake_some _ l vs l1 hb hu
    rw [hu] at T1
    have T1 : wigwagref05_take.f 500 l (os.length : Int) = some (vs, (l.length : Int) - l1.length, true) := T1
    obtain ⟨hN, g, rfl, hP⟩ := plain_f ho (fun h => hk (.inl h)) (fun h => hk (.inr h)) h14 n1
    refine (rbeh_plain 500 fin A c l w h0 hc K _ k2 k3 hN (by simpa using h14) vs _ T1 _ _ _ _ _ _ _ _ hP).mono ?_
    rintro e w' ⟨A8, c8, A9, c9, rfl, hO, hS, hB⟩
    exact ⟨A8, c8, A9, c9, rfl, hO, hS, hB⟩
theorem uTake_one (l : List Int) : uTake 1 l = (uNum l).map fun r => ([r.1], r.2) := by
 rw [uTake]
 cases uNum l <;> rfl
theorem uTake_three (l : List Int) : uTake 3 l = (uTake 2 l).bind fun q => (uNum q.2).map fun p => (q.1 ++ [p.1], p.2) := by
 rw [show (3 : Nat) = 2 + 1 from rfl, uTake_add]
 congr 1
 funext q
 rw [uTake_one]
 cases uNum q.2 <;> rfl
theorem rKind_eq {K : Int} {fin : Bool} {os : List Nat} {l : List Int} (ho : fOffs K = some os) (hf : fin = true → K = 14) (hb : bytesOk l = true) :
  rKind K fin l = (bhd K fin os l).bind fun v => rChk K v.2.1 v.2.2.2.1 v.1 v.2.2.1 v.2.2.2.2 := by
 unfold rKind bhd
 rw [ho]
 simp only
 by_cases hk : K = 2 ∨ K = 3
 ·have hfin : fin = false := by
   cases fin with
   | false => rfl
   | true => have := hf rfl; omega
  subst hfin
  rw [if_pos hk, if_pos hk, rSp_eq]
  unfold ackU
  rw [uTake_one]
  have hos : os = (if K = 3 then [5, 6] else [5]) := by
   rcases hk with rfl | rfl <;> exact (Option.some.inj ho).symm
  have hn : (if K = 3 then 2 else 1) = os.length := by
   rw [hos]; split <;> rfl
  have h14 : K ≠ 14 := by omega
  rw [hn, ← hos]
  cases h1 : uNum l with
  | none => rfl
  | some r =>
   have hr0 : rd [r.1] 0 = r.1 := rfl
   simp only [Option.bind_some, Option.map_some, hr0]
   split
   ·cases h2 : uTake (2 * r.1.toNat) r.2 with
    | none => rfl
    | some q2 =>
     simp only [Option.bind_some]
     cases hS : ackS q2.1 with
     | none => rfl
     | some s =>
      simp only [Option.bind_some, Option.map_some, rNums_eq]
      cases h3 : uTake os.length q2.2 with
      | none => rfl
      | some q3 =>
       simp only [Option.bind_some, Option.map_some, rEnd]
       rw [if_neg h14]
   ·rfl
 ·rw [if_neg hk, if_neg hk, rNums_eq]
  by_cases h14 : K = 14
  ·subst h14
   have hos : os = [1, 2] := (Option.some.inj ho).symm
   subst hos
   rw [if_pos rfl, uTake_three]
   cases h2 : uTake 2 l with
   | none => simp [h2]
   | some q =>
    obtain ⟨vs, l1⟩ := q
    obtain ⟨n1, m1, b1, le1, _⟩ := uTake_some 2 l vs l1 hb h2
    obtain ⟨a, b, rfl⟩ := two_num n1
    simp only [List.length_cons, List.length_nil, Nat.zero_add, Nat.reduceAdd, h2, Option.map_some, Option.bind_some, rEnd, if_true]
    cases h3 : uNum l1 with
    | none => rfl
    | some p =>
     obtain ⟨n, l2⟩ := p
     have hn := (uNum_some b1 h3).1
     have hr : rd ([a, b] ++ [n]) 2 = n := rfl
     simp only [Option.bind_some, Option.map_some, hr]
     by_cases c1 : n ≤ l2.length
     ·rw [if_pos c1]
      by_cases c2 : n ≤ 1200
      ·rw [if_pos ⟨c2, c1⟩, Option.bind_some]
       rfl
      ·rw [if_neg (by omega), Option.bind_none]
       unfold rChk
       rw [if_neg]
       intro h0
       have hl : (l2.take n.toNat).length = n.toNat := by rw [List.length_take]; omega
       obtain ⟨os', ho'⟩ := chk_fOffs h0
       obtain ⟨_, _, _, hx, _⟩ := chk_parts ho' h0
       omega
     ·rw [if_neg c1, if_neg (by omega)]; rfl
  ·have hfin : fin = false := by
    cases fin with
    | false => rfl
    | true => exact absurd (hf rfl) h14
   subst hfin
   rw [if_neg h14]
   cases h1 : uTake os.length l with
   | none => rfl
   | some q =>
    simp only [Option.bind_some, Option.map_some, rEnd]
    rw [if_neg h14]
end Go.Proofs.Ytphakdfholkbdaa
end
