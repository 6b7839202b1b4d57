import Derived.Outline
import Derived.Handy
import Derived.Recover
import Derived.WalkSmall
import Derived.Laws.Externs
import Derived.Laws.CopyOwn
import Derived.Lib.AppendZerosOnto
import Derived.Lib.Overlaps
import Derived.Deep.RegionLaw
import Derived.Test.YtphakdfholkbdaaPFrax0
import Derived.Test.YtphakdfholkbdaaNum
import Derived.Test.YtphakdfholkbdaaSeg
import Derived.Test.YtphakdfholkbdaaFraB
import Derived.Test.YtphakdfholkbdaaFrPi0
namespace Go.Proofs.Ytphakdfholkbdaa
open Go.Proofs.Ytphakdfholkbdaa.PFra Go.RowKit Go.Proofs.YtphakdfholkbdaaW.PrintWords Go.Proofs.YtphakdfholkbdaaW.PrintLast Go.Proofs.YtphakdfholkbdaaW.PrintMore
set_option maxRecDepth 100000
set_option maxHeartbeats 4000000
set_option linter.unusedVariables false
set_option linter.unusedSimpArgs false
theorem overlaps_no (w : World) (g vb o n1 c1 n2 c2 : Nat) (L Lv : List Value) (hB : Blk w g 47 L) (hV : Blk w vb 47 Lv) (hne : vb ≠ g) (hL : L.length ≠ 0) :
    (callFunc 55 #[.slice (some ⟨vb, 0, none⟩) n1 c1, .slice (some ⟨g, o, none⟩) n2 c2]).run Try.prog w = .ok (.value (.bool false)) w := by
  have hz : ∀ w, (Go.sizeOf 47).run Try.prog w = .ok 2 w := fun w => by
    obtain ⟨i0, hi0, _, hs0, _⟩ := info_parts info47
    simp [sizeOf, typeInfo, hi0, hs0]
  rw [run_callFunc_extern Try.func55 (by kernel_rfl) (by kernel_rfl) (by kernel_rfl) (e := Extern.SlicesOverlaps.overlaps #[25, 25] #[4]) (by kernel_rfl),
    Lib.run_overlaps_apart w 25 4 47 Try.underlying25 2 hz ⟨vb, 0, none⟩ ⟨g, o, none⟩ n1 c1 n2 c2 hne 47 47 Lv.length L.length (by simp [World.shape?, hV.out]) (by simp [World.shape?, hB.out]) hL (hV.frozen 0) (hV.frozen _)]
  rfl
theorem insert_room (w : World) (g c vb : Nat) (l : List S47) (rest : List Value) (x : S47) (hB : Blk w g 47 (flat l ++ rest)) (hV : Blk w vb 47 (flat [x])) (hne : vb ≠ g) (hp : 0 < l.length) (hroom : l.length + 1 ≤ c) (hc : c ≤ 9223372036854775807) (hs : (flat l ++ rest).length = c * 2) :
    Calls Try.prog 52 #[.slice (some ⟨g, 0, none⟩) l.length c, .int .i64 0, .slice (some ⟨vb, 0, none⟩) 1 1] w fun e w' =>
      e = .returned (.slice (some ⟨g, 0, none⟩) (l.length + 1) c) ∧ Blk w' g 47 (flat (x :: l) ++ rest.drop 2) ∧ (flat (x :: l) ++ rest.drop 2).length = c * 2 ∧ Turned g w w' := by
  have hu := Try.underlying25
  have hsz : (Try.prog.info? 47).map (·.size) = some 2 := by
    obtain ⟨i0, hi0, _, hs0, _⟩ := info_parts info47
    rw [hi0]; simp [hs0]
  have hfl := flat_len l
  have hf1 := flat_len [x]
  have hov : ∀ o n1 c1 n2 c2, (callFunc 55 #[.slice (some ⟨vb, 0, none⟩) n1 c1, .slice (some ⟨g, o, none⟩) n2 c2]).run Try.prog w = .ok (.value (.bool false)) w := fun o n1 c1 n2 c2 => overlaps_no w g vb o n1 c1 n2 c2 _ _ hB hV hne (by omega)
  obtain ⟨n, hn⟩ : ∃ n, n = l.length := ⟨_, rfl⟩
  rw [← hn] at hfl hp hroom ⊢
  obtain ⟨L, hL⟩ : ∃ L, L = flat l ++ rest := ⟨_, rfl⟩
  rw [← hL] at hB hs
  obtain ⟨Lx, hLx⟩ : ∃ Lx, Lx = flat [x] := ⟨_, rfl⟩
  obtain ⟨Ll, hLl⟩ : ∃ Ll, Ll = flat l := ⟨_, rfl⟩
  have o1 : ∀ v ∈ Lx, v.oneCell' = true := hLx ▸ flat_one [x]
  have o2 : ∀ v ∈ Ll, v.oneCell' = true := hLl ▸ flat_one l
  rw [← hLx] at hV hf1
  rw [← hLl] at hfl
  have hLt : L.take (n * 2) = Ll := by rw [hL, hLl, ← hfl, hLl, List.take_left]
  obtain ⟨L1, hL1⟩ : ∃ L1, L1 = L.take 2 ++ Ll ++ L.drop (2 + Ll.length) := ⟨_, rfl⟩
  obtain ⟨L2, hL2⟩ : ∃ L2, L2 = L1.take 0 ++ Lx ++ L1.drop (0 + Lx.length) := ⟨_, rfl⟩
  have hL1l : L1.length = c * 2 := by rw [hL1]; simp only [List.length_append, List.length_take, List.length_drop]; omega
  have hL2e : L2 = flat (x :: l) ++ rest.drop 2 := by
    have e1 : L1.drop 2 = Ll ++ L.drop (2 + Ll.length) := by
      rw [hL1, List.append_assoc, List.drop_append_of_le_length (by rw [List.length_take]; omega), List.drop_of_length_le (by rw [List.length_take]; omega)]
      rfl
    have e2 : L.drop (2 + Ll.length) = rest.drop 2 := by
      rw [hL, ← hLl, Nat.add_comm, List.drop_length_add_append]
    rw [hL2, List.take_zero, List.nil_append, show 0 + Lx.length = 2 by rw [hf1]; rfl, e1, e2, hLx, hLl, ← List.append_assoc]
    rfl
  have hL2l : (flat (x :: l) ++ rest.drop 2).length = c * 2 := by rw [← hL2e, hL2]; simp only [List.length_append, List.length_take, List.length_drop, hf1, List.length_cons, List.length_nil]; omega
  rw [← hL2e] at hL2l ⊢
  clear hL2e hLl hLx hL
  have q1 : ((n : Int) == 0) = false := beq_eq_false_iff_ne.mpr (by omega)
  have q2 : ((0 : Int) == n) = false := beq_eq_false_iff_ne.mpr (by omega)
  have q3 : ¬ ((c : Int) < (n : Int) + 1) := by omega
  have q4 : IntKind.i64.wrap ((n : Int) + 1) = (n : Int) + 1 := by rw [IntKind.wrap_i64]; omega
  have q5 : ((n : Int) + 1).toNat = n + 1 := by omega
  have q6 : ¬ (c = 1) := by omega
  have q7 : ¬ (c = 0) := by omega
  clear hn
  have q8 : (n : Int) ≤ 9223372036854775807 := by omega
  have q15 : IntKind.i64.wrap 1 = 1 := rfl
  have q16 : (1 : Int) ≤ (n : Int) + 1 := by omega
  have q17 : (0 : Int) ≤ (n : Int) + 1 := by omega
  have q9 : Nat.min (n + 1) n = n := Nat.min_eq_right (by omega)
  have q10 : Nat.min 1 (n + 1) = 1 := Nat.min_eq_left (by omega)
  have q11 : 2 + Ll.length ≤ L.length := by omega
  have q12 : (L.drop 0).take Ll.length = Ll := by rw [List.drop_zero, hfl, hLt]
  have q13 : (Lx.drop 0).take Lx.length = Lx := by rw [List.drop_zero, List.take_length]
  have q14 : 0 + Lx.length ≤ L1.length := by simp at hf1; omega
  replace hL1 := hL1.symm
  replace hL2 := hL2.symm
  replace hf1 : Lx.length = 1 * 2 := hf1
  go_enter Try.func52, Try.ntmps52
  go_wp2_with (simp only [hov])
  go_region_law (refine step_copy rfl _ _ 25 25 rfl 47 g 2 n (c - 1) g 0 (n + 1) c 2 n L L Ll L1 47 47 (by simp [Act.eval, Act.put]) (by simp [Act.eval, Act.put]) hu hsz (by first | exact hB | exact hB.drew | exact hB.drewN _) (by first | exact hB | exact hB.drew | exact hB.drewN _) q9 hfl q12 q11 o2 hL1 ?_; intro w1 hB1 hg1)
  have hV1 : Blk w1 vb 47 Lx := hV.drew.grown hg1 hne
  have hT1 : Turned g w w1 := (Turned.refl g w).drew.same hg1
  go_wp2_with ((with_reducible refine gate_builtin (b := .copy) (xs := #[.tmp 80, .tmp 81]) rfl ?_); refine seg_copy rfl _ _ 25 25 rfl 47 g 0 (n + 1) c vb 0 1 1 2 1 L1 Lx Lx L2 47 47 rfl rfl hu hsz hB1 hV1 q10 hf1 q13 q14 o1 hL2 ?_; intro w2 hB2 hg2)
  go_ret
  exact ⟨rfl, hB2, hL2l, hT1.same hg2⟩
theorem insert_grow (w : World) (g vb : Nat) (l : List S47) (rest : List Value) (x : S47) (hB : Blk w g 47 (flat l ++ rest)) (hV : Blk w vb 47 (flat [x])) (hne : vb ≠ g) (hp : 0 < l.length) (hc : l.length ≤ 1000) (hs : (flat l ++ rest).length = l.length * 2) :
    Calls Try.prog 52 #[.slice (some ⟨g, 0, none⟩) l.length l.length, .int .i64 0, .slice (some ⟨vb, 0, none⟩) 1 1] w fun e w' =>
      ∃ k c' rest', e = .returned (.slice (some ⟨k, 0, none⟩) (l.length + 1) c') ∧ w.heap.size ≤ k ∧ Blk w' k 47 (flat (x :: l) ++ rest') ∧ l.length + 1 ≤ c' ∧ c' ≤ 9223372036854775807 ∧ (flat (x :: l) ++ rest').length = c' * 2 ∧ Below w.heap.size w w' := by
  have hu := Try.underlying25
  have hsz : (Try.prog.info? 47).map (·.size) = some 2 := by
    obtain ⟨i0, hi0, _, hs0, _⟩ := info_parts info47
    rw [hi0]; simp [hs0]
  have hfl := flat_len l
  have hf1 := flat_len [x]
  have hov : ∀ o n1 c1 n2 c2, (callFunc 55 #[.slice (some ⟨vb, 0, none⟩) n1 c1, .slice (some ⟨g, o, none⟩) n2 c2]).run Try.prog w = .ok (.value (.bool false)) w := fun o n1 c1 n2 c2 => overlaps_no w g vb o n1 c1 n2 c2 _ _ hB hV hne (by omega)
  obtain ⟨n, hn⟩ : ∃ n, n = l.length := ⟨_, rfl⟩
  rw [← hn] at hfl hp hc hs ⊢
  obtain ⟨L, hL⟩ : ∃ L, L = flat l ++ rest := ⟨_, rfl⟩
  rw [← hL] at hB hs
  obtain ⟨Lx, hLx⟩ : ∃ Lx, Lx = flat [x] := ⟨_, rfl⟩
  obtain ⟨Ll, hLl⟩ : ∃ Ll, Ll = flat l := ⟨_, rfl⟩
  have o1 : ∀ v ∈ Lx, v.oneCell' = true := hLx ▸ flat_one [x]
  have o2 : ∀ v ∈ Ll, v.oneCell' = true := hLl ▸ flat_one l
  rw [← hLx] at hV hf1
  rw [← hLl] at hfl
  have hLt : L.take (n * 2) = Ll := by rw [hL, hLl, ← hfl, hLl, List.take_left]
  have hxl : flat (x :: l) = Lx ++ Ll := by rw [hLx, hLl]; rfl
  rw [hxl]
  clear hxl hLl hLx hL hov
  obtain ⟨i0, hi0, hz0, hs0, hb0⟩ := info_parts info47
  have q1 : ((n : Int) == 0) = false := beq_eq_false_iff_ne.mpr (by omega)
  have q2 : ((0 : Int) == n) = false := beq_eq_false_iff_ne.mpr (by omega)
  have q3 : (n : Int) < (n : Int) + 1 := by omega
  have q4 : IntKind.i64.wrap ((n : Int) + 1) = (n : Int) + 1 := by rw [IntKind.wrap_i64]; omega
  have q7 : ¬ (n = 0) := by omega
  have q8 : n < n + 1 := by omega
  have q9 : n + 1 < 1000000 := by omega
  have q15 : IntKind.i64.wrap 1 = 1 := rfl
  have q16 : (1 : Int) ≤ (n : Int) + 1 := by omega
  have q17 : (0 : Int) ≤ (n : Int) + 1 := by omega
  have q18 : (0 : Int) ≤ (n : Int) := by omega
  have q10 : Nat.min 1 (n + 1) = 1 := rfl
  have q11 : Nat.min n n = n := Nat.min_self n
  have q12 : (L.drop 0).take Ll.length = Ll := by rw [List.drop_zero, hfl, hLt]
  have q13 : (Lx.drop 0).take Lx.length = Lx := by rw [List.drop_zero, List.take_length]
  replace hf1 : Lx.length = 1 * 2 := hf1
  clear hn
  go_enter Try.func52, Try.ntmps52
  go_wp2_with (first
    | (at_builtin; refine seg_zeros rfl _ _ 25 3 47 rfl i0 (some ⟨g, 0, none⟩) n (n + 1) rfl rfl hu Try.underlying3 hi0 hz0 hs0 hb0 q8 q9 ?_; intro k hk w1 c1 hB1 hn1 hc1 hb1; have hgk := (ne_new hB hk).symm; have hvk := (ne_new hV hk).symm; have hkb : w.heap.size ≤ k := (by omega); clear hk; obtain ⟨L0, hL0⟩ : ∃ L0, List.replicate (c1 * 2) (Value.int .u64 0) = L0 := ⟨_, rfl⟩; rw [hL0] at hB1; have hL0l : L0.length = c1 * 2 := (by rw [← hL0, List.length_replicate]); obtain ⟨L1, hL1⟩ : ∃ L1, L0.take 0 ++ Lx ++ L0.drop (0 + Lx.length) = L1 := ⟨_, rfl⟩; have hL1l : L1.length = c1 * 2 := (by rw [← hL1]; simp only [List.length_append, List.length_take, List.length_drop]; omega); obtain ⟨L2, hL2⟩ : ∃ L2, L1.take 2 ++ Ll ++ L1.drop (2 + Ll.length) = L2 := ⟨_, rfl⟩; have hV1 := hV.below hb1; have hA1 := hB.below hb1; have z1 : ¬ (c1 = 0) := (by omega); have z2 : ¬ (c1 = 1) := (by omega); have z3 : 0 + Lx.length ≤ L0.length := (by omega); have z4 : 2 + Ll.length ≤ L1.length := (by omega))
    | ((with_reducible refine gate_builtin (b := .copy) (xs := #[.tmp 43, .tmp 44]) rfl ?_); refine seg_copy rfl _ _ 25 25 rfl 47 k 0 (n + 1) c1 vb 0 1 1 2 1 L0 Lx Lx L1 47 47 rfl rfl hu hsz hB1 hV1 q10 hf1 q13 z3 o1 hL1 ?_; intro w2 hB2 hg2; have hA2 := hA1.grown hg2 hgk))
  go_region_law (refine step_copy rfl _ _ 25 25 rfl 47 k 2 n (c1 - 1) g 0 n n 2 n L1 L Ll L2 47 47 (by simp [Act.eval, Act.put]) (by simp [Act.eval, Act.put]) hu hsz (by first | exact hB2 | exact hB2.drew | exact hB2.drewN _) (by first | exact hA2 | exact hA2.drew | exact hA2.drewN _) q11 hfl q12 z4 o2 hL2 ?_; intro w3 hB3 hg3)
  go_wp2
  go_ret
  have hL2e : L2 = Lx ++ Ll ++ L0.drop (2 + Ll.length) := by
    have e1 : L1 = Lx ++ L0.drop 2 := by rw [← hL1, List.take_zero, List.nil_append, hf1]
    have e2 : Lx.length = 2 := hf1
    have e3 : L1.take 2 = Lx := by rw [e1, ← e2, List.take_left]
    have e4 : L1.drop (2 + Ll.length) = L0.drop (2 + Ll.length) := by rw [e1]; conv => { lhs; rw [← e2, List.drop_length_add_append] }; rw [List.drop_drop, e2]
    rw [← hL2, e3, e4]
  have hL2l : L2.length = c1 * 2 := by rw [← hL2]; simp only [List.length_append, List.length_take, List.length_drop]; omega
  rw [hL2e] at hB3 hL2l
  exact ⟨k, c1, _, rfl, hkb, hB3, hn1, hc1, hL2l, (Since.grown (Since.grown ⟨hb1⟩ hg2 hkb).drew hg3 hkb).out⟩
theorem insert_nil (w : World) (Av : Option Addr) (cv : Nat) (x : S47) (hv : Kd.C k47 w Av [x].length [x]) (hc : [x].length ≤ cv) :
    Calls Try.prog 52 #[.slice none 0 0, .int .i64 0, .slice Av [x].length cv] w fun e w' => ∃ v, e = .returned v ∧ Kd.R k47 47 w' w.heap.size (fun _ => True) v [x] ∧ Below w.heap.size w w' := by
  have hu := Try.underlying25
  have hs : ∀ w, (Instr.slice 25 (.slice none 0 0) (some (.int .i64 0)) none none).run Try.prog w = .ok (.slice none 0 0) w := fun _ => by kernel_rfl
  have ho : Kd.R k47 47 w w.heap.size (fun _ => True) (.slice none 0 0) ([] : List S47) := Kd.R_nil _ _ _ _ _
  go_enter Try.func52, Try.ntmps52
  go_wp2_with ((with_reducible refine gate_builtin (b := .append) (xs := #[.tmp 23, .tmp 24]) rfl ?_); at_builtin; refine Kd.R_append_rows k47 (w0 := w) w.heap.size rfl (.tmp 23) (.tmp 24) 25 47 (.agg #[.int .u64 0, .int .u64 0]) 16 rfl Try.underlying25 info47 rfl (show 0 < 2 by decide) (by omega) (.slice none 0 0) [] [x] _ _ _ (fun _ => True) (fun _ => False) rfl rfl ?aO ?aR (fun _ _ h => h) (fun _ h => h.elim) (fun _ _ => trivial) ?aB ?aS ?aL ?_; (case aR => first | exact hv | exact Kd.C_drewN hv _); (case aB => exact Below.refl _ _); (case aO => exact ho); (case aS => exact Nat.le_refl _); (case aL => simp); intro v2 w2 ho2 hb2 hg2 hat2)
  go_ret
  exact ⟨_, rfl, by simpa using ho2, hb2⟩
/-- The block of a row, if it has one. -/
def gOf (v : Value) : Nat := match v with | .slice (some a) _ _ => a.block | _ => 0
theorem Turned.of_below {g : Nat} {w w1 : World} (h : Below w.heap.size w w1) : Turned g w w1 := (Turned.refl g w).below h
theorem blk_C {w : World} {vb : Nat} {x : S47} (hV : Blk w vb 47 (flat [x])) : Kd.C k47 w (some ⟨vb, 0, none⟩) [x].length [x] := by
  refine ⟨rfl, by simp, fun _ => ⟨_, rfl, fun j p hp => ?_⟩⟩
  cases j with
  | succ j => simp at hp
  | zero =>
    obtain rfl : x = p := by simpa using hp
    refine ⟨_, rfl, k47_mk w x, fun i u hu => ?_⟩
    have hadd : (⟨vb, 0, none⟩ : Addr).add (0 * 2 + i) = ⟨vb, i, none⟩ := by unfold Addr.add; simp; omega
    show w.cell? ((⟨vb, 0, none⟩ : Addr).add (0 * 2 + i)) = some u
    rw [hadd, hV.cell]
    exact hu
/-- slices.Insert(s, 0, x): x ahead of s. The row may lie where it lay, or anew. -/
theorem insertC (base : Nat) (w : World) (v : Value) (l : List S47) (vb : Nat) (x : S47) (h : SR base w v l) (h0 : l = [] → v = .slice none 0 0) (hV : Blk w vb 47 (flat [x])) (hne : ∀ k, v.ownBlock = some k → vb ≠ k) (hl : l.length ≤ 1000) (hbase : base ≤ w.heap.size) :
    Calls Try.prog 52 #[v, .int .i64 0, .slice (some ⟨vb, 0, none⟩) 1 1] w fun e w' => ∃ v', e = .returned v' ∧ SR base w' v' (x :: l) ∧ w.grownBy w' v.ownBlock := by
  by_cases hp : 0 < l.length
  · obtain ⟨g, c, rest, rfl, hg, hB, hn, hc, hs⟩ := h.open hp
    have hvg : vb ≠ g := hne g rfl
    by_cases hr : l.length + 1 ≤ c
    · refine (insert_room w g c vb l rest x hB hV hvg hp hr hc hs).mono ?_
      rintro e w' ⟨rfl, hB', hs', hT⟩
      exact ⟨_, rfl, SR.shut hg hB' (by simpa using hr) hc hs', hT.out⟩
    · obtain rfl : l.length = c := by omega
      refine (insert_grow w g vb l rest x hB hV hvg hp hl hs).mono ?_
      rintro e w' ⟨k, c', rest', rfl, hk, hB', hn', hc', hs', hb⟩
      exact ⟨_, rfl, SR.shut (Nat.le_trans hbase hk) hB' (by simpa using hn') hc' hs', (Turned.of_below hb).out⟩
  · obtain rfl : l = [] := List.eq_nil_of_length_eq_zero (by omega)
    obtain rfl := h0 rfl
    refine (insert_nil w _ 1 x (blk_C hV) (Nat.le_refl _)).mono ?_
    rintro e w' ⟨v', rfl, hR, hb⟩
    exact ⟨v', rfl, (SR.of hR).lower hbase, ⟨hb.os, hb.tape, hb.output, hb.size, fun k hk _ => hb.block k hk⟩⟩

end Go.Proofs.Ytphakdfholkbdaa
