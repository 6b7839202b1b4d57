/- Several texts of this claim in one: FrPa FrPi FrPf FrPs -/
import Derived.Outline
import Derived.Handy
import Derived.Recover
import Derived.WalkSmall
import Derived.Laws.Externs
import Derived.Laws.CopyOwn
import Derived.Lib.AppendZerosOnto
import Derived.Lib.Overlaps
import Derived.Deep.RegionLaw
import Derived.Test.YtphakdfholkbdaaKA
import Derived.Test.YtphakdfholkbdaaKW
import Derived.Test.YtphakdfholkbdaaKB
section
namespace Go.Proofs.Ytphakdfholkbdaa
open Go.Proofs.Ytphakdfholkbdaa.PFra Go.RowKit Go.Proofs.YtphakdfholkbdaaW.PrintWords Go.Proofs.YtphakdfholkbdaaW.PrintLast Go.Proofs.YtphakdfholkbdaaW.PrintMore
set_option maxRecDepth 100000
set_option maxHeartbeats 4000000
set_option linter.unusedVariables false
set_option linter.unusedSimpArgs false
theorem needs_t (w : World) : Calls Try.prog 42 #[.bool true] w fun e w' => e = .returned (.tuple #[]) ∧ w = w' := by
 go_enter Try.func42, Try.ntmps42
 go_wp2
 go_end0
 exact ⟨rfl, rfl⟩
def Gave (e : Ending) : Prop := e = .panicked [{ v := .iface 29 (.int .i64 50), recovered := false }]
theorem needs_f (w : World) : Calls Try.prog 42 #[.bool false] w fun e w' => e = .panicked [{ v := .iface 29 (.int .i64 50), recovered := false }] ∧ w = w' := by
 go_enter Try.func42, Try.ntmps42
 go_wp2
 exact ⟨rfl, rfl, rfl⟩
theorem caught_nil (w : World) : Calls Try.prog 33 #[.nilIface] w fun e w' => e = .returned (.int .i64 0) ∧ w = w' := by
 go_enter Try.func33, Try.ntmps33
 go_wp2
 go_ret
 exact ⟨rfl, rfl⟩
theorem caught_it (w : World) : Calls Try.prog 33 #[.iface 29 (.int .i64 50)] w fun e w' => e = .returned (.int .i64 50) ∧ w = w' := by
 have ht : ∀ w, (Instr.typeAssert (.iface 29 (.int .i64 50)) 20 29 true).run Try.prog w = .ok (.tuple #[.int .i64 50, .bool true]) w := fun _ => by kernel_rfl
 go_enter Try.func33, Try.ntmps33
 go_wp2
 go_ret
 exact ⟨rfl, rfl⟩
structure Src (w0 w : World) (sb : Nat) (l : List Int) : Prop where mk ::
 ge : w0.heap.size ≤ sb
 out : ∃ A c, Blk w sb 73 [.slice A l.length c] ∧ Kd.C (Kd.int .u8) w0 A l.length l ∧ l.length ≤ c
def uNum (l : List Int) : Option (Int × List Int) := if (uGet l).2.2 = 0 then some ((uGet l).1, l.drop (uGetN l)) else none
theorem uGet_cases (l : List Int) : (uGet l = (0, 0, 30)) ∨ (uGet l = (uGetV l, (uGetN l : Int), 0) ∧ uGetN l ≤ l.length) := by
 unfold uGet
 split
 ·exact .inl rfl
 ·split
  ·exact .inl rfl
  ·exact .inr ⟨rfl, by omega⟩
def NumP (w0 : World) (sb : Nat) : Option (Int × List Int) → Ending → World → Prop
 | none, e, _ => Gave e
 | some (v, l'), e, w' => e = .returned (.int .u64 v) ∧ Src w0 w' sb l'
theorem number_calls (w0 w : World) (sb : Nat) (l : List Int) (hS : Src w0 w sb l) (hw : Since w0 w) (hb : bytesOk l = true) :
  Calls Try.prog 41 #[.pointer (some ⟨sb, 0, none⟩)] w fun e w' => Turned sb w w' ∧ NumP w0 sb (uNum l) e w' := by
 obtain ⟨hge, A, c, hB, hr, hc⟩ := hS
 have c0 : w.cell? ⟨sb, 0, none⟩ = some (.slice A l.length c) := (blk_cell hB.out 0).trans rfl
 have f0 := blk_frozen hB.out 0
 have hg : varint_Get.f l = some ((uGet l).1, (uGet l).2.1, (uGet l).2.2) := by unfold varint_Get.f; rw [if_pos hb]
 have hR := Kd.C_below hr hw.out
 have hu := Try.underlying73
 rcases uGet_cases l with h | ⟨h, hn⟩
 ·have hN : uNum l = none := by unfold uNum; rw [h]; rfl
  rw [h] at hg
  go_enter Try.func41, Try.ntmps41
  go_wp2_with (first | ((go_at_call 51); with_reducible refine (varint_Get.calls A c l _ _ _ _ (by first | exact hR | exact Kd.C_drewN hR _) hc hg).mono ?_; rintro e w' ⟨rfl, ⟨nd, rfl⟩⟩) | ((go_at_call 42); with_reducible refine (needs_f _).mono ?_; rintro e w' ⟨rfl, rfl⟩))
  refine ⟨rfl, (Turned.refl sb w).drewN _, ?_⟩
  rw [hN]; rfl
 ·have hN : uNum l = some (uGetV l, l.drop (uGetN l)) := by unfold uNum; rw [h]; rfl
  rw [h] at hg
  obtain ⟨i0, hi0, _, hsz0, _⟩ := info_parts info5
  obtain ⟨A', hcut, hA, hc'⟩ := print_drop_of (P := Try.prog) (Value.int .u8) 0 24 5 .i64 Try.underlying24 hi0 hsz0 A c l (uGetN l : Int) (by omega) (by omega) hc
  rw [Int.toNat_natCast] at hcut hA hc'
  have hR' := (Kd.C_of_reads (h1 := fun _ => rfl) (hA w0 (Kd.reads_of_C hr)) : Kd.C (Kd.int .u8) w0 A' _ _)
  generalize uGetN l = m at *
  generalize uGetV l = v at *
  go_enter Try.func41, Try.ntmps41
  go_wp2_with (first | ((go_at_call 51); with_reducible refine (varint_Get.calls A c l _ _ _ _ (by first | exact hR | exact Kd.C_drewN hR _) hc hg).mono ?_; rintro e w' ⟨rfl, ⟨nd, rfl⟩⟩) | ((go_at_call 42); with_reducible refine (needs_t _).mono ?_; rintro e w' ⟨rfl, rfl⟩))
  go_ret
  refine ⟨((Turned.refl sb w).drewN _).set, ?_⟩
  rw [hN]
  exact ⟨rfl, hge, A', _, (hB.drewN _).set 0 _ (by rw [List.length_drop]; rfl), hR', hc'⟩
theorem clone_calls (A : Option Addr) (c : Nat) (l : List Int) (w : World) (hr : Kd.C (Kd.int .u8) w A l.length l) (hc : l.length ≤ c) (hl : l.length ≤ 140737488355328) :
  Calls Try.prog 53 #[.slice A l.length c] w fun e w' => ∃ v, e = .returned v ∧ OW w w' v l ∧ Below w.heap.size w w' := by
 have hn0 : ∀ (n c : Nat) (w : World), (binOp .eql 24 (.slice none n c) (.slice none 0 0)).run Try.prog w = .ok (.bool true) w := fun _ _ _ => by kernel_rfl
 have hn1 : ∀ (ad : Addr) (n c : Nat) (w : World), (binOp .eql 24 (.slice (some ad) n c) (.slice none 0 0)).run Try.prog w = .ok (.bool false) w := fun _ _ _ _ => by kernel_rfl
 cases A with
 | none =>
  have h0 : l = [] := by
   cases l with
   | nil => rfl
   | cons x t => obtain ⟨ad, e, _⟩ := Kd.at_int hr 0 (by omega) (by simp); cases e
  subst h0
  go_enter Try.func53, Try.ntmps53
  go_wp2
  go_ret
  exact ⟨_, rfl, ⟨Kd.R_nil _ _ _ _ _⟩, Below.refl _ _⟩
 | some ad =>
  go_enter Try.func53, Try.ntmps53
  go_wp2_with (first
   | ((with_reducible refine gate_dst (N := 5) rfl ?_); refine Kd.R_lit (Kd.int .u8) w.heap.size 5 ?hg (N := 5) ?hd (xs := ([] : List Int)) (inner := []) (ok := fun _ => True) (okp := fun _ => True) ?hr ?hp (fun _ hk => hk) trivial (Below.refl _ _) (Nat.le_refl _) (by simp) ?_; (case hd => rfl); (case hg => rfl); (case hr => first | (go_simp; done) | (go_simp; rfl)); (case hp => exact (Reps.none _ _)); intro v1 w1 ho hb hg_ hnew_)
   | ((with_reducible refine gate_builtin (b := .append) (xs := #[.tmp 5, .tmp 6]) rfl ?_); at_builtin; refine Kd.R_append_rows (Kd.int .u8) (w0 := w) w.heap.size rfl (.tmp 5) (.tmp 6) 24 5 (.int .u8 0) 1 rfl Try.underlying24 info5 rfl (by decide) (by omega) v1 [] l _ _ _ (fun _ => True) (fun _ => False) rfl rfl ?aO ?aR (fun _ _ h => h) (fun _ h => h.elim) (fun _ _ => trivial) ?aB ?aS ?aL ?_; (case aR => first | exact Kd.C_below hr hb | exact Kd.C_drewN (Kd.C_below hr hb) _); (case aB => first | exact hb | exact pw_below_drewN hb _); (case aO => (with_reducible repeat (first | apply Kd.R_alloc | apply Kd.R_drewN | apply Kd.R_drew)); exact ho); (case aS => first | exact below_size hb | exact below_size (pw_below_drewN hb _)); (case aL => simp; omega); intro v2 w2 ho2 hb2 hg2 hat2))
  go_ret
  exact ⟨_, rfl, ⟨by simpa using ho2⟩, hb2⟩
theorem take_no (w0 w : World) (sb : Nat) (l : List Int) (n : Int) (hS : Src w0 w sb l) (hn : (l.length : Int) < n) (hl : l.length ≤ 140737488355328) :
  Calls Try.prog 44 #[.pointer (some ⟨sb, 0, none⟩), .int .u64 n] w fun e w' => Turned sb w w' ∧ Gave e := by
 obtain ⟨hge, A, c, hB, hr, hc⟩ := hS
 have c0 : w.cell? ⟨sb, 0, none⟩ = some (.slice A l.length c) := (blk_cell hB.out 0).trans rfl
 have f0 := blk_frozen hB.out 0
 have hu := Try.underlying73
 have hw : IntKind.u64.wrap (l.length : Int) = l.length := w64 ⟨by omega, by omega⟩
 have hd : decide (n ≤ (l.length : Int)) = false := decide_eq_false (by omega)
 go_enter Try.func44, Try.ntmps44
 go_wp2_with ((go_at_call 42); with_reducible refine (needs_f _).mono ?_; rintro e w' ⟨rfl, rfl⟩)
 exact ⟨rfl, Turned.refl sb w, rfl⟩
theorem take_calls (w0 w : World) (sb : Nat) (l : List Int) (n : Int) (hS : Src w0 w sb l) (hw : Since w0 w) (h0 : 0 ≤ n) (hn : n ≤ l.length) (hl : l.length ≤ 140737488355328) :
  Calls Try.prog 44 #[.pointer (some ⟨sb, 0, none⟩), .int .u64 n] w fun e w' => Turned sb w w' ∧ ∃ v, e = .returned v ∧ OW w0 w' v (l.take n.toNat) ∧ Src w0 w' sb (l.drop n.toNat) := by
 obtain ⟨hge, A, c, hB, hr, hc⟩ := hS
 have c0 : w.cell? ⟨sb, 0, none⟩ = some (.slice A l.length c) := (blk_cell hB.out 0).trans rfl
 have f0 := blk_frozen hB.out 0
 have hu := Try.underlying73
 have hwr : IntKind.u64.wrap (l.length : Int) = l.length := w64 ⟨by omega, by omega⟩
 have hd : decide (n ≤ (l.length : Int)) = true := decide_eq_true hn
 have hR := Kd.C_below hr hw.out
 obtain ⟨i0, hi0, _, hsz0, _⟩ := info_parts info5
 obtain ⟨hcutT, hT, hcT⟩ := print_take_of (P := Try.prog) (Value.int .u8) 0 24 5 .u64 Try.underlying24 hi0 hsz0 A c l n h0 hn hc
 obtain ⟨A', hcutD, hD, hcD⟩ := print_drop_of (P := Try.prog) (Value.int .u8) 0 24 5 .u64 Try.underlying24 hi0 hsz0 A c l n h0 hn hc
 have hRT := (Kd.C_of_reads (h1 := fun _ => rfl) (hT w (Kd.reads_of_C hR)) : Kd.C (Kd.int .u8) w A _ _)
 have hRD := (Kd.C_of_reads (h1 := fun _ => rfl) (hD w0 (Kd.reads_of_C hr)) : Kd.C (Kd.int .u8) w0 A' _ _)
 have hlt : (l.take n.toNat).length ≤ 140737488355328 := by rw [List.length_take]; omega
 obtain ⟨lt, elt⟩ : ∃ lt, lt = l.take n.toNat := ⟨_, rfl⟩
 obtain ⟨ld, eld⟩ : ∃ ld, ld = l.drop n.toNat := ⟨_, rfl⟩
 rw [← elt] at hcutT hcT hRT hlt ⊢
 rw [← eld] at hcutD hcD hRD ⊢
 clear hT hD hi0 hsz0 elt eld
 replace hRT : Kd.C (Kd.int .u8) w A lt.length lt := hRT
 go_enter Try.func44, Try.ntmps44
 go_wp2_with (first
  | ((go_at_call 42); with_reducible refine (needs_t _).mono ?_; rintro e w' ⟨rfl, rfl⟩)
  | ((go_at_call 53); with_reducible refine (clone_calls A c lt _ (by first | exact hRT | exact Kd.C_drewN hRT _) hcT hlt).mono ?_; rintro e w1 ⟨v, rfl, ho, hb⟩; have hB1 := hB.below hb; have c1 : w1.cell? ⟨sb, 0, none⟩ = some (.slice A l.length c) := (blk_cell hB1.out 0).trans rfl; have f1 := blk_frozen hB1.out 0))
 go_ret
 exact ⟨((Turned.refl sb w).below hb).set, v, rfl, ((⟨Kd.R_lower ho.out hw.le⟩ : OW w0 _ v lt)).set hB1 (by decide) 0 _, hge, A', _, hB1.set 0 _ rfl, hRD, hcD⟩
def flat (l : List S47) : List Value := l.flatMap fun x => [.int .u64 x.f0, .int .u64 x.f1]
theorem flat_len (l : List S47) : (flat l).length = l.length * 2 := by induction l with
 | nil => rfl
 | cons x t ih => simp only [flat, List.flatMap_cons, List.length_append, List.length_cons] at ih ⊢; rw [ih]; simp; omega
theorem flat_one (l : List S47) : ∀ v ∈ flat l, v.oneCell' = true := by
 intro v hv
 simp only [flat, List.mem_flatMap] at hv
 obtain ⟨x, _, hx⟩ := hv
 simp at hx
 rcases hx with rfl | rfl <;> rfl
theorem reps_flat {w : World} {base : Nat} {ok : Nat → Prop} : ∀ {l : List S47} {cs : List Value}, Reps (k47.M w base ok) 2 l cs → cs = flat l
 | [], cs, h => List.eq_nil_of_length_eq_zero (by simpa using h.1)
 | x :: l, cs, h => by
  have h0 := k47_openM (h.2 0 x rfl)
  rw [Nat.zero_mul, List.drop_zero] at h0
  have ht : Reps (k47.M w base ok) 2 l (cs.drop 2) := ⟨by rw [List.length_drop, h.1, List.length_cons]; omega, fun j p hp => by
   have := h.2 (j + 1) p hp
   rwa [List.drop_drop, show 2 + j * 2 = (j + 1) * 2 by omega]⟩
  have e := reps_flat ht
  rw [← List.take_append_drop 2 cs, h0, e]
  rfl
theorem flat_reps (w : World) (base : Nat) (ok : Nat → Prop) : ∀ (l : List S47), Reps (k47.M w base ok) 2 l (flat l)
 | [] => Reps.none _ _
 | x :: l => ⟨flat_len _, fun j p hp => by
   cases j with
   | zero =>
    obtain rfl : x = p := by simpa using hp
    exact k47_mkM w base ok x
   | succ j =>
    have := (flat_reps w base ok l).2 j p (by simpa using hp)
    rw [show (j + 1) * 2 = 2 + j * 2 by omega, ← List.drop_drop]
    exact this⟩
structure SR (base : Nat) (w : World) (v : Value) (l : List S47) : Prop where mk :: (out : w.ownsRow base 47 2 v l.length (flat l))
theorem SR.of {w : World} {base : Nat} {ok : Nat → Prop} {v : Value} {l : List S47} (h : Kd.R k47 47 w base ok v l) : SR base w v l := by
 obtain ⟨_, inner, h1, h2⟩ := h
 obtain rfl := reps_flat h2
 exact ⟨h1⟩
theorem SR.to {w : World} {base : Nat} {v : Value} {l : List S47} (h : SR base w v l) : Kd.R k47 47 w base (fun _ => True) v l := ⟨fun _ _ => trivial, flat l, h.out, flat_reps w base _ l⟩
theorem SR.nil (base : Nat) (w : World) : SR base w (.slice none 0 0) [] := ⟨own_nil _ _ _ _⟩
theorem SR.below {base : Nat} {w w1 : World} {v : Value} {l : List S47} (h : SR base w v l) (hb : Below w.heap.size w w1) : SR base w1 v l := SR.of (Kd.R_below h.to hb)
theorem SR.lower {base base' : Nat} {w : World} {v : Value} {l : List S47} (h : SR base w v l) (hb : base' ≤ base) : SR base' w v l := SR.of (Kd.R_lower h.to hb)
theorem SR.grown {base : Nat} {w w1 : World} {v : Value} {l : List S47} {g t : Nat} {cs : List Value} (h : SR base w v l) (hB : Blk w g t cs) (ht : t ≠ 47) (hg : w.grownBy w1 (some g)) : SR base w1 v l :=
 ⟨own_move h.out (fun k hk => by
  obtain ⟨cells, hc⟩ := own_typed h.out k hk
  refine hg.block k (blk_lt hc) (fun e => ?_)
  injection e with e
  subst e
  have := hB.out.symm.trans hc
  injection this with this
  injection this with _ this _
  exact ht this)⟩
theorem SR.open {base : Nat} {w : World} {v : Value} {l : List S47} (h : SR base w v l) (hp : 0 < l.length) : ∃ g c rest, v = .slice (some ⟨g, 0, none⟩) l.length c ∧ base ≤ g ∧ Blk w g 47 (flat l ++ rest) ∧ l.length ≤ c ∧ c ≤ 9223372036854775807 ∧ (flat l ++ rest).length = c * 2 := by
 rcases h.out.2 with ⟨_, h2⟩ | ⟨g, c, cur, rfl, hg, hh, hn, hm, hs, ht⟩
 ·omega
 ·refine ⟨g, c, cur.toList.drop (l.length * 2), rfl, hg, ⟨?_⟩, hn, hm, ?_⟩
  ·rw [hh]
   congr 2
   rw [← ht, List.take_append_drop]
  ·rw [← ht, List.take_append_drop]
   simpa using hs
theorem SR.shut {base : Nat} {w : World} {l : List S47} {g c : Nat} {rest : List Value} (hg : base ≤ g) (hB : Blk w g 47 (flat l ++ rest)) (hn : l.length ≤ c) (hc : c ≤ 9223372036854775807) (hs : (flat l ++ rest).length = c * 2) : SR base w (.slice (some ⟨g, 0, none⟩) l.length c) l :=
 ⟨flat_len l, .inr ⟨g, c, _, rfl, hg, hB.out, hn, hc, by simpa using hs, by rw [List.toList_toArray, ← flat_len l, List.take_left]⟩⟩
theorem run_append_zeros {P : Program} {w : World} (t tk ty e : TypeId) (i : TypeInfo) (z : Value) (ik : IntKind) (ht : P.underlying t = some (.slice e)) (hk : P.underlying tk = some (.int ik)) (hi : P.info? e = some i) (hz : i.zero = some z)
  (base : Option Addr) (sCap n : Nat) (hg : sCap < n) (h63 : (n : Int) ≤ 9223372036854775807) (hb : (n : Int) * i.bytes ≤ 281474976710656) (hs : 0 < n * i.size) (hfit : Builtin.nextslicecap n sCap * i.bytes ≤ 281474976710656) :
  (Builtin.append_ #[t, tk] ty #[.slice base 0 sCap, .int .i64 n]).run P w =
   .ok (.slice (some ⟨w.heap.size, 0, none⟩) n (grownCap w n sCap e)) (w.drew.alloc (.cells (Builtin.zeroCells z.cells n ++ Builtin.zeroCells z.cells (grownCap w n sCap e - n)) e)) := by
 have hn : ¬ (n ≤ sCap) := by omega
 have hw : IntKind.i64.wrap (n : Int) = n := by simp [IntKind.wrap, IntKind.bits, IntKind.signed]; omega
 have h0 : ¬ ((n : Int) < 0) := by omega
 have h48 : ¬ (281474976710656 < (n : Int) * i.bytes) := by omega
 have h63' : ¬ (9223372036854775807 < (n : Int)) := by omega
 have h48' : ¬ (281474976710656 < Builtin.nextslicecap n sCap * i.bytes) := by omega
 have hz' : ¬ (n * i.size = 0) := by omega
 have ha : ∀ w : World, (asInt (.int .i64 (n : Int))).run P w = .ok (n : Int) w := fun _ => rfl
 have hf : ∀ w : World, (Builtin.firstCells i.size 0 (.slice base 0 sCap)).run P w = .ok #[] w := fun w => by cases base <;> simp [Builtin.firstCells, loadCells, loadCellsFrom]
 simp [ha, hf, Builtin.append_, run_underlying ht, run_underlying hk, sizeOf, typeInfo, zeroValue, hi, hz, hn, hw, h0, h48, h63', h48', hz', Question.forced, newRow, grownCap]
theorem run_copy_seg {P : Program} (w : World) (dT sT ty elem : TypeId) (g o dLen dCap k so sLen sCap sz n : Nat) (L L' cs Ln : List Value) (t t' : TypeId)
  (hu : P.underlying dT = some (.slice elem)) (hs : (P.info? elem).map (·.size) = some sz)
  (hB : Blk w g t L) (hK : Blk w k t' L') (hm : Nat.min sLen dLen = n) (hn : cs.length = n * sz)
  (hsrc : (L'.drop so).take cs.length = cs) (hfit : o + cs.length ≤ L.length) (h1 : ∀ v ∈ cs, v.oneCell' = true) (hl : L.take o ++ cs ++ L.drop (o + cs.length) = Ln) :
  ∃ w', (Builtin.copy_ #[dT, sT] ty #[.slice (some ⟨g, o, none⟩) dLen dCap, .slice (some ⟨k, so, none⟩) sLen sCap]).run P w = .ok (goInt n) w' ∧ Blk w' g t Ln ∧ w.grownBy w' (some g) := by
 have hadd : ∀ j, (⟨k, so, none⟩ : Addr).add j = ⟨k, so + j, none⟩ := fun j => by unfold Addr.add; split <;> simp_all
 have hc : ∀ j v, cs[j]? = some v → w.cell? ((⟨k, so, none⟩ : Addr).add j) = some v := fun j v hv => by
  rw [hadd, hK.cell]
  rw [← hsrc, List.getElem?_take] at hv
  split at hv
  ·rwa [List.getElem?_drop] at hv
  ·cases hv
 have hl1 := run_loadCells_list (P := P) w ⟨k, so, none⟩ cs hc
 have hst := run_storeCells_at P g o t cs 0 L.toArray w hB.out (by simpa using hfit) h1
 obtain ⟨i, hq, hi⟩ := Option.map_eq_some_iff.1 hs
 rw [hn] at hl1
 refine ⟨w.setRow g Ln.toArray, ?_, ⟨setRow_heap _ _ _ _ _ _ hB.out⟩, ⟨rfl, rfl, rfl, by rw [setRow_size]; exact Nat.le_refl _, fun j _ hj => setRow_other _ _ _ _ (fun e => hj (by rw [e]))⟩⟩
 rw [← hl]
 simp [Builtin.copy_, run_underlying hu, Builtin.lenOf, Builtin.firstCells, sizeOf, typeInfo, hq, hi, hm, hl1, hst]
section
variable {P : Program} {ops : Array Oper} {rest : List Oper} {o : Oper} {a : Act} {W : World}
theorem seg_copy {Q : Exit → Act → World → Prop} (hgd : o.guard = none) (d s : Operand) (dT sT : TypeId) (ho : o.op = .call { callee := .builtin .copy, args := #[d, s], argTypes := #[dT, sT] }) (elem : TypeId) (g off dLen dCap k so sLen sCap sz n : Nat) (L L' cs Ln : List Value) (t t' : TypeId)
  (hd : a.eval d = .slice (some ⟨g, off, none⟩) dLen dCap) (hs : a.eval s = .slice (some ⟨k, so, none⟩) sLen sCap)
  (hu : P.underlying dT = some (.slice elem)) (hz : (P.info? elem).map (·.size) = some sz)
  (hB : Blk W g t L) (hK : Blk W k t' L') (hm : Nat.min sLen dLen = n) (hn : cs.length = n * sz)
  (hsrc : (L'.drop so).take cs.length = cs) (hfit : off + cs.length ≤ L.length) (h1 : ∀ v ∈ cs, v.oneCell' = true) (hl : L.take off ++ cs ++ L.drop (off + cs.length) = Ln)
  (h : ∀ w1, Blk w1 g t Ln → W.grownBy w1 (some g) → wpList P ops Q rest (a.put o.dst (goInt n)) w1) : wpList P ops Q (o :: rest) a W := by
 obtain ⟨w1, hr, hB1, hg1⟩ := run_copy_seg (P := P) W dT sT o.type elem g off dLen dCap k so sLen sCap sz n L L' cs Ln t t' hu hz hB hK hm hn hsrc hfit h1 hl
 refine wpList_plain hgd fun K hK' => ?_
 unfold Oper.wp execOp
 simp only [ho, resolve, invoke, builtin, Sem.run_bind, Sem.run_pure, Result.andThen_ok, List.map_toArray, List.map_cons, List.map_nil, hd, hs, hr]
 exact hK' _ _ (h w1 hB1 hg1)
theorem step_copy {Q : Exit → Act → World → Prop} {K : Act → World → Prop} {E : Prop} (hgd : o.guard = none) (d s : Operand) (dT sT : TypeId) (ho : o.op = .call { callee := .builtin .copy, args := #[d, s], argTypes := #[dT, sT] }) (elem : TypeId) (g off dLen dCap k so sLen sCap sz n : Nat) (L L' cs Ln : List Value) (t t' : TypeId)
  (hd : a.eval d = .slice (some ⟨g, off, none⟩) dLen dCap) (hs : a.eval s = .slice (some ⟨k, so, none⟩) sLen sCap)
  (hu : P.underlying dT = some (.slice elem)) (hz : (P.info? elem).map (·.size) = some sz)
  (hB : Blk W g t L) (hK : Blk W k t' L') (hm : Nat.min sLen dLen = n) (hn : cs.length = n * sz)
  (hsrc : (L'.drop so).take cs.length = cs) (hfit : off + cs.length ≤ L.length) (h1 : ∀ v ∈ cs, v.oneCell' = true) (hl : L.take off ++ cs ++ L.drop (off + cs.length) = Ln)
  (h : ∀ w1, Blk w1 g t Ln → W.grownBy w1 (some g) → K (a.put o.dst (goInt n)) w1) : if Region.wanted o (yielded ops a.tmps) = true then Oper.wp P o a W K Q else E := by
 obtain ⟨w1, hr, hB1, hg1⟩ := run_copy_seg (P := P) W dT sT o.type elem g off dLen dCap k so sLen sCap sz n L L' cs Ln t t' hu hz hB hK hm hn hsrc hfit h1 hl
 have hw : Region.wanted o (yielded ops a.tmps) = true := by simp [Region.wanted, hgd]
 rw [if_pos hw]
 unfold Oper.wp execOp
 simp only [ho, resolve, invoke, builtin, Sem.run_bind, Sem.run_pure, Result.andThen_ok, List.map_toArray, List.map_cons, List.map_nil, hd, hs, hr]
 exact h w1 hB1 hg1
theorem zeros_list (z : List Value) (n m : Nat) (hz : z = [.int .u64 0, .int .u64 0]) : (Builtin.zeroCells z.toArray n ++ Builtin.zeroCells z.toArray m) = (List.replicate ((n + m) * 2) (Value.int .u64 0)).toArray := by
 subst hz
 have h : ∀ n, (Builtin.zeroCells #[Value.int .u64 0, Value.int .u64 0] n) = (List.replicate (n * 2) (Value.int .u64 0)).toArray := fun n => by
  apply Array.toList_inj.1
  apply List.ext_getElem
  ·simp [Builtin.zeroCells]
  ·intro i h1 h2
   simp only [Builtin.zeroCells, List.size_toArray, List.length_cons, List.length_nil, Array.getElem_toList, Array.getElem_ofFn, List.getElem_toArray, List.getElem_replicate]
   have : i % 2 = 0 ∨ i % 2 = 1 := by omega
   rcases this with e | e <;> simp [e]
 rw [h n, h m]
 simp [List.replicate_append_replicate, Nat.add_mul]
theorem seg_zeros {Q : Exit → Act → World → Prop} (hgd : o.guard = none) (s x : Operand) (t tn e : TypeId) (ho : o.op = .call { callee := .builtin .append, args := #[s, x], argTypes := #[t, tn] }) (i : TypeInfo) (base : Option Addr) (sCap n : Nat)
  (hs : a.eval s = .slice base 0 sCap) (hx : a.eval x = .int .i64 (n : Int)) (ht : P.underlying t = some (.slice e)) (htn : P.underlying tn = some (.int .i64)) (hi : P.info? e = some i) (hz : i.zero = some (.agg #[.int .u64 0, .int .u64 0])) (hsz : i.size = 2) (hby : i.bytes = 16)
  (hg : sCap < n) (hn : n < 1000000)
  (h : ∀ g, g = W.heap.size → ∀ w1 c, Blk w1 g e (List.replicate (c * 2) (Value.int .u64 0)) → n ≤ c → c ≤ 9223372036854775807 → Below W.heap.size W w1 → wpList P ops Q rest (a.put o.dst (.slice (some ⟨g, 0, none⟩) n c)) w1) : wpList P ops Q (o :: rest) a W := by
 have hfit := growslice_fits (need := n) (old := sCap) (bytes := 16) hg (by omega)
 have hr := run_append_zeros (P := P) (w := W) t tn o.type e i _ .i64 ht htn hi hz base sCap n hg (by omega) (by rw [hby]; omega) (by rw [hsz]; omega) (by rw [hby]; exact hfit)
 have hGn : n ≤ grownCap W n sCap e := grownCap_ge W ..
 have hG63 := grownCap_le_maxLen W n sCap e (by unfold maxLen; omega)
 unfold maxLen at hG63
 generalize grownCap W n sCap e = G at *
 rw [show (Value.agg #[.int .u64 0, .int .u64 0]).cells = [Value.int .u64 0, Value.int .u64 0].toArray from rfl, zeros_list _ n (G - n) rfl, show n + (G - n) = G by omega] at hr
 refine wpList_plain hgd fun K hK' => ?_
 unfold Oper.wp execOp
 simp only [ho, resolve, invoke, builtin, Sem.run_bind, Sem.run_pure, Result.andThen_ok, List.map_toArray, List.map_cons, List.map_nil, hs, hx, hr]
 exact hK' _ _ (h _ rfl _ G (blkNew W.drew _ e) hGn hG63 (below_alloc (below_drew1 (Below.refl _ _)) _))
end
theorem overlaps_no (w : World) (g vb o n1 c1 n2 c2 : Nat) (L Lv : List Value) (hB : Blk w g 47 L) (hV : Blk w vb 47 Lv) (hne : vb ≠ g) (hL : L.length ≠ 0) :
  (callFunc 55 #[.slice (some ⟨vb, 0, none⟩) n1 c1, .slice (some ⟨g, o, none⟩) n2 c2]).run Try.prog w = .ok (.value (.bool false)) w := by
 have hz : ∀ w, (Go.sizeOf 47).run Try.prog w = .ok 2 w := fun w => by
  obtain ⟨i0, hi0, _, hs0, _⟩ := info_parts info47
  simp [sizeOf, typeInfo, hi0, hs0]
 rw [run_callFunc_extern Try.func55 (by kernel_rfl) (by kernel_rfl) (by kernel_rfl) (e := Extern.SlicesOverlaps.overlaps #[25, 25] #[4]) (by kernel_rfl),
  Lib.run_overlaps_apart w 25 4 47 Try.underlying25 2 hz ⟨vb, 0, none⟩ ⟨g, o, none⟩ n1 c1 n2 c2 hne 47 47 Lv.length L.length (by simp [World.shape?, hV.out]) (by simp [World.shape?, hB.out]) hL (hV.frozen 0) (hV.frozen _)]
 rfl
theorem insert_room (w : World) (g c vb : Nat) (l : List S47) (rest : List Value) (x : S47) (hB : Blk w g 47 (flat l ++ rest)) (hV : Blk w vb 47 (flat [x])) (hne : vb ≠ g) (hp : 0 < l.length) (hroom : l.length + 1 ≤ c) (hc : c ≤ 9223372036854775807) (hs : (flat l ++ rest).length = c * 2) :
  Calls Try.prog 52 #[.slice (some ⟨g, 0, none⟩) l.length c, .int .i64 0, .slice (some ⟨vb, 0, none⟩) 1 1] w fun e w' =>
   e = .returned (.slice (some ⟨g, 0, none⟩) (l.length + 1) c) ∧ Blk w' g 47 (flat (x :: l) ++ rest.drop 2) ∧ (flat (x :: l) ++ rest.drop 2).length = c * 2 ∧ Turned g w w' := by
 have hu := Try.underlying25
 have hsz : (Try.prog.info? 47).map (·.size) = some 2 := by
  obtain ⟨i0, hi0, _, hs0, _⟩ := info_parts info47
  rw [hi0]; simp [hs0]
 have hfl := flat_len l
 have hf1 := flat_len [x]
 have hov : ∀ o n1 c1 n2 c2, (callFunc 55 #[.slice (some ⟨vb, 0, none⟩) n1 c1, .slice (some ⟨g, o, none⟩) n2 c2]).run Try.prog w = .ok (.value (.bool false)) w := fun o n1 c1 n2 c2 => overlaps_no w g vb o n1 c1 n2 c2 _ _ hB hV hne (by omega)
 obtain ⟨n, hn⟩ : ∃ n, n = l.length := ⟨_, rfl⟩
 rw [← hn] at hfl hp hroom ⊢
 obtain ⟨L, hL⟩ : ∃ L, L = flat l ++ rest := ⟨_, rfl⟩
 rw [← hL] at hB hs
 obtain ⟨Lx, hLx⟩ : ∃ Lx, Lx = flat [x] := ⟨_, rfl⟩
 obtain ⟨Ll, hLl⟩ : ∃ Ll, Ll = flat l := ⟨_, rfl⟩
 have o1 : ∀ v ∈ Lx, v.oneCell' = true := hLx ▸ flat_one [x]
 have o2 : ∀ v ∈ Ll, v.oneCell' = true := hLl ▸ flat_one l
 rw [← hLx] at hV hf1
 rw [← hLl] at hfl
 have hLt : L.take (n * 2) = Ll := by rw [hL, hLl, ← hfl, hLl, List.take_left]
 obtain ⟨L1, hL1⟩ : ∃ L1, L1 = L.take 2 ++ Ll ++ L.drop (2 + Ll.length) := ⟨_, rfl⟩
 obtain ⟨L2, hL2⟩ : ∃ L2, L2 = L1.take 0 ++ Lx ++ L1.drop (0 + Lx.length) := ⟨_, rfl⟩
 have hL1l : L1.length = c * 2 := by rw [hL1]; simp only [List.length_append, List.length_take, List.length_drop]; omega
 have hL2e : L2 = flat (x :: l) ++ rest.drop 2 := by
  have e1 : L1.drop 2 = Ll ++ L.drop (2 + Ll.length) := by
   rw [hL1, List.append_assoc, List.drop_append_of_le_length (by rw [List.length_take]; omega), List.drop_of_length_le (by rw [List.length_take]; omega)]
   rfl
  have e2 : L.drop (2 + Ll.length) = rest.drop 2 := by
   rw [hL, ← hLl, Nat.add_comm, List.drop_length_add_append]
  rw [hL2, List.take_zero, List.nil_append, show 0 + Lx.length = 2 by rw [hf1]; rfl, e1, e2, hLx, hLl, ← List.append_assoc]
  rfl
 have hL2l : (flat (x :: l) ++ rest.drop 2).length = c * 2 := by rw [← hL2e, hL2]; simp only [List.length_append, List.length_take, List.length_drop, hf1, List.length_cons, List.length_nil]; omega
 rw [← hL2e] at hL2l ⊢
 clear hL2e hLl hLx hL
 have q1 : ((n : Int) == 0) = false := beq_eq_false_iff_ne.mpr (by omega)
 have q2 : ((0 : Int) == n) = false := beq_eq_false_iff_ne.mpr (by omega)
 have q3 : ¬ ((c : Int) < (n : Int) + 1) := by omega
 have q4 : IntKind.i64.wrap ((n : Int) + 1) = (n : Int) + 1 := by rw [IntKind.wrap_i64]; omega
 have q5 : ((n : Int) + 1).toNat = n + 1 := by omega
 have q6 : ¬ (c = 1) := by omega
 have q7 : ¬ (c = 0) := by omega
 clear hn
 have q8 : (n : Int) ≤ 9223372036854775807 := by omega
 have q15 : IntKind.i64.wrap 1 = 1 := rfl
 have q16 : (1 : Int) ≤ (n : Int) + 1 := by omega
 have q17 : (0 : Int) ≤ (n : Int) + 1 := by omega
 have q9 : Nat.min (n + 1) n = n := Nat.min_eq_right (by omega)
 have q10 : Nat.min 1 (n + 1) = 1 := Nat.min_eq_left (by omega)
 have q11 : 2 + Ll.length ≤ L.length := by omega
 have q12 : (L.drop 0).take Ll.length = Ll := by rw [List.drop_zero, hfl, hLt]
 have q13 : (Lx.drop 0).take Lx.length = Lx := by rw [List.drop_zero, List.take_length]
 have q14 : 0 + Lx.length ≤ L1.length := by simp at hf1; omega
 replace hL1 := hL1.symm
 replace hL2 := hL2.symm
 replace hf1 : Lx.length = 1 * 2 := hf1
 go_enter Try.func52, Try.ntmps52
 go_wp2_with (simp only [hov])
 go_region_law (refine step_copy rfl _ _ 25 25 rfl 47 g 2 n (c - 1) g 0 (n + 1) c 2 n L L Ll L1 47 47 (by simp [Act.eval, Act.put]) (by simp [Act.eval, Act.put]) hu hsz (by first | exact hB | exact hB.drew | exact hB.drewN _) (by first | exact hB | exact hB.drew | exact hB.drewN _) q9 hfl q12 q11 o2 hL1 ?_; intro w1 hB1 hg1)
 have hV1 : Blk w1 vb 47 Lx := hV.drew.grown hg1 hne
 have hT1 : Turned g w w1 := (Turned.refl g w).drew.same hg1
 go_wp2_with ((with_reducible refine gate_builtin (b := .copy) (xs := #[.tmp 80, .tmp 81]) rfl ?_); refine seg_copy rfl _ _ 25 25 rfl 47 g 0 (n + 1) c vb 0 1 1 2 1 L1 Lx Lx L2 47 47 rfl rfl hu hsz hB1 hV1 q10 hf1 q13 q14 o1 hL2 ?_; intro w2 hB2 hg2)
 go_ret
 exact ⟨rfl, hB2, hL2l, hT1.same hg2⟩
theorem insert_grow (w : World) (g vb : Nat) (l : List S47) (rest : List Value) (x : S47) (hB : Blk w g 47 (flat l ++ rest)) (hV : Blk w vb 47 (flat [x])) (hne : vb ≠ g) (hp : 0 < l.length) (hc : l.length ≤ 1000) (hs : (flat l ++ rest).length = l.length * 2) :
  Calls Try.prog 52 #[.slice (some ⟨g, 0, none⟩) l.length l.length, .int .i64 0, .slice (some ⟨vb, 0, none⟩) 1 1] w fun e w' =>
   ∃ k c' rest', e = .returned (.slice (some ⟨k, 0, none⟩) (l.length + 1) c') ∧ w.heap.size ≤ k ∧ Blk w' k 47 (flat (x :: l) ++ rest') ∧ l.length + 1 ≤ c' ∧ c' ≤ 9223372036854775807 ∧ (flat (x :: l) ++ rest').length = c' * 2 ∧ Below w.heap.size w w' := by
 have hu := Try.underlying25
 have hsz : (Try.prog.info? 47).map (·.size) = some 2 := by
  obtain ⟨i0, hi0, _, hs0, _⟩ := info_parts info47
  rw [hi0]; simp [hs0]
 have hfl := flat_len l
 have hf1 := flat_len [x]
 have hov : ∀ o n1 c1 n2 c2, (callFunc 55 #[.slice (some ⟨vb, 0, none⟩) n1 c1, .slice (some ⟨g, o, none⟩) n2 c2]).run Try.prog w = .ok (.value (.bool false)) w := fun o n1 c1 n2 c2 => overlaps_no w g vb o n1 c1 n2 c2 _ _ hB hV hne (by omega)
 obtain ⟨n, hn⟩ : ∃ n, n = l.length := ⟨_, rfl⟩
 rw [← hn] at hfl hp hc hs ⊢
 obtain ⟨L, hL⟩ : ∃ L, L = flat l ++ rest := ⟨_, rfl⟩
 rw [← hL] at hB hs
 obtain ⟨Lx, hLx⟩ : ∃ Lx, Lx = flat [x] := ⟨_, rfl⟩
 obtain ⟨Ll, hLl⟩ : ∃ Ll, Ll = flat l := ⟨_, rfl⟩
 have o1 : ∀ v ∈ Lx, v.oneCell' = true := hLx ▸ flat_one [x]
 have o2 : ∀ v ∈ Ll, v.oneCell' = true := hLl ▸ flat_one l
 rw [← hLx] at hV hf1
 rw [← hLl] at hfl
 have hLt : L.take (n * 2) = Ll := by rw [hL, hLl, ← hfl, hLl, List.take_left]
 have hxl : flat (x :: l) = Lx ++ Ll := by rw [hLx, hLl]; rfl
 rw [hxl]
 clear hxl hLl hLx hL hov
 obtain ⟨i0, hi0, hz0, hs0, hb0⟩ := info_parts info47
 have q1 : ((n : Int) == 0) = false := beq_eq_false_iff_ne.mpr (by omega)
 have q2 : ((0 : Int) == n) = false := beq_eq_false_iff_ne.mpr (by omega)
 have q3 : (n : Int) < (n : Int) + 1 := by omega
 have q4 : IntKind.i64.wrap ((n : Int) + 1) = (n : Int) + 1 := by rw [IntKind.wrap_i64]; omega
 have q7 : ¬ (n = 0) := by omega
 have q8 : n < n + 1 := by omega
 have q9 : n + 1 < 1000000 := by omega
 have q15 : IntKind.i64.wrap 1 = 1 := rfl
 have q16 : (1 : Int) ≤ (n : Int) + 1 := by omega
 have q17 : (0 : Int) ≤ (n : Int) + 1 := by omega
 have q18 : (0 : Int) ≤ (n : Int) := by omega
 have q10 : Nat.min 1 (n + 1) = 1 := rfl
 have q11 : Nat.min n n = n := Nat.min_self n
 have q12 : (L.drop 0).take Ll.length = Ll := by rw [List.drop_zero, hfl, hLt]
 have q13 : (Lx.drop 0).take Lx.length = Lx := by rw [List.drop_zero, List.take_length]
 replace hf1 : Lx.length = 1 * 2 := hf1
 clear hn
 go_enter Try.func52, Try.ntmps52
 go_wp2_with (first
  | (at_builtin; refine seg_zeros rfl _ _ 25 3 47 rfl i0 (some ⟨g, 0, none⟩) n (n + 1) rfl rfl hu Try.underlying3 hi0 hz0 hs0 hb0 q8 q9 ?_; intro k hk w1 c1 hB1 hn1 hc1 hb1; have hgk := (ne_new hB hk).symm; have hvk := (ne_new hV hk).symm; have hkb : w.heap.size ≤ k := (by omega); clear hk; obtain ⟨L0, hL0⟩ : ∃ L0, List.replicate (c1 * 2) (Value.int .u64 0) = L0 := ⟨_, rfl⟩; rw [hL0] at hB1; have hL0l : L0.length = c1 * 2 := (by rw [← hL0, List.length_replicate]); obtain ⟨L1, hL1⟩ : ∃ L1, L0.take 0 ++ Lx ++ L0.drop (0 + Lx.length) = L1 := ⟨_, rfl⟩; have hL1l : L1.length = c1 * 2 := (by rw [← hL1]; simp only [List.length_append, List.length_take, List.length_drop]; omega); obtain ⟨L2, hL2⟩ : ∃ L2, L1.take 2 ++ Ll ++ L1.drop (2 + Ll.length) = L2 := ⟨_, rfl⟩; have hV1 := hV.below hb1; have hA1 := hB.below hb1; have z1 : ¬ (c1 = 0) := (by omega); have z2 : ¬ (c1 = 1) := (by omega); have z3 : 0 + Lx.length ≤ L0.length := (by omega); have z4 : 2 + Ll.length ≤ L1.length := (by omega))
  | ((with_reducible refine gate_builtin (b := .copy) (xs := #[.tmp 43, .tmp 44]) rfl ?_); refine seg_copy rfl _ _ 25 25 rfl 47 k 0 (n + 1) c1 vb 0 1 1 2 1 L0 Lx Lx L1 47 47 rfl rfl hu hsz hB1 hV1 q10 hf1 q13 z3 o1 hL1 ?_; intro w2 hB2 hg2; have hA2 := hA1.grown hg2 hgk))
 go_region_law (refine step_copy rfl _ _ 25 25 rfl 47 k 2 n (c1 - 1) g 0 n n 2 n L1 L Ll L2 47 47 (by simp [Act.eval, Act.put]) (by simp [Act.eval, Act.put]) hu hsz (by first | exact hB2 | exact hB2.drew | exact hB2.drewN _) (by first | exact hA2 | exact hA2.drew | exact hA2.drewN _) q11 hfl q12 z4 o2 hL2 ?_; intro w3 hB3 hg3)
 go_wp2
 go_ret
 have hL2e : L2 = Lx ++ Ll ++ L0.drop (2 + Ll.length) := by
  have e1 : L1 = Lx ++ L0.drop 2 := by rw [← hL1, List.take_zero, List.nil_append, hf1]
  have e2 : Lx.length = 2 := hf1
  have e3 : L1.take 2 = Lx := by rw [e1, ← e2, List.take_left]
  have e4 : L1.drop (2 + Ll.length) = L0.drop (2 + Ll.length) := by rw [e1]; conv => { lhs; rw [← e2, List.drop_length_add_append] }; rw [List.drop_drop, e2]
  rw [← hL2, e3, e4]
 have hL2l : L2.length = c1 * 2 := by rw [← hL2]; simp only [List.length_append, List.length_take, List.length_drop]; omega
 rw [hL2e] at hB3 hL2l
 exact ⟨k, c1, _, rfl, hkb, hB3, hn1, hc1, hL2l, (Since.grown (Since.grown ⟨hb1⟩ hg2 hkb).drew hg3 hkb).out⟩
theorem insert_nil (w : World) (Av : Option Addr) (cv : Nat) (x : S47) (hv : Kd.C k47 w Av [x].length [x]) (hc : [x].length ≤ cv) :
  Calls Try.prog 52 #[.slice none 0 0, .int .i64 0, .slice Av [x].length cv] w fun e w' => ∃ v, e = .returned v ∧ Kd.R k47 47 w' w.heap.size (fun _ => True) v [x] ∧ Below w.heap.size w w' := by
 have hu := Try.underlying25
 have hs : ∀ w, (Instr.slice 25 (.slice none 0 0) (some (.int .i64 0)) none none).run Try.prog w = .ok (.slice none 0 0) w := fun _ => by kernel_rfl
 have ho : Kd.R k47 47 w w.heap.size (fun _ => True) (.slice none 0 0) ([] : List S47) := Kd.R_nil ..
 go_enter Try.func52, Try.ntmps52
 go_wp2_with ((with_reducible refine gate_builtin (b := .append) (xs := #[.tmp 23, .tmp 24]) rfl ?_); at_builtin; refine Kd.R_append_rows k47 (w0 := w) w.heap.size rfl (.tmp 23) (.tmp 24) 25 47 (.agg #[.int .u64 0, .int .u64 0]) 16 rfl Try.underlying25 info47 rfl (show 0 < 2 by decide) (by omega) (.slice none 0 0) [] [x] _ _ _ (fun _ => True) (fun _ => False) rfl rfl ?aO ?aR (fun _ _ h => h) (fun _ h => h.elim) (fun _ _ => trivial) ?aB ?aS ?aL ?_; (case aR => first | exact hv | exact Kd.C_drewN hv _); (case aB => exact Below.refl _ _); (case aO => exact ho); (case aS => exact Nat.le_refl _); (case aL => simp); intro v2 w2 ho2 hb2 hg2 hat2)
 go_ret
 exact ⟨_, rfl, by simpa using ho2, hb2⟩
theorem Turned.of_below {g : Nat} {w w1 : World} (h : Below w.heap.size w w1) : Turned g w w1 := (Turned.refl g w).below h
theorem blk_C {w : World} {vb : Nat} {x : S47} (hV : Blk w vb 47 (flat [x])) : Kd.C k47 w (some ⟨vb, 0, none⟩) [x].length [x] := by
 refine ⟨rfl, by simp, fun _ => ⟨_, rfl, fun j p hp => ?_⟩⟩
 cases j with
 | succ j => simp at hp
 | zero =>
  obtain rfl : x = p := by simpa using hp
  refine ⟨_, rfl, k47_mk w x, fun i u hu => ?_⟩
  have hadd : (⟨vb, 0, none⟩ : Addr).add (0 * 2 + i) = ⟨vb, i, none⟩ := by unfold Addr.add; simp; omega
  show w.cell? ((⟨vb, 0, none⟩ : Addr).add (0 * 2 + i)) = some u
  rw [hadd, hV.cell]
  exact hu
theorem insertC (base : Nat) (w : World) (v : Value) (l : List S47) (vb : Nat) (x : S47) (h : SR base w v l) (h0 : l = [] → v = .slice none 0 0) (hV : Blk w vb 47 (flat [x])) (hne : ∀ k, v.ownBlock = some k → vb ≠ k) (hl : l.length ≤ 1000) (hbase : base ≤ w.heap.size) :
  Calls Try.prog 52 #[v, .int .i64 0, .slice (some ⟨vb, 0, none⟩) 1 1] w fun e w' => ∃ v', e = .returned v' ∧ SR base w' v' (x :: l) ∧ w.grownBy w' v.ownBlock := by
 by_cases hp : 0 < l.length
 ·obtain ⟨g, c, rest, rfl, hg, hB, hn, hc, hs⟩ := h.open hp
  have hvg : vb ≠ g := hne g rfl
  by_cases hr : l.length + 1 ≤ c
  ·refine (insert_room w g c vb l rest x hB hV hvg hp hr hc hs).mono ?_
   rintro e w' ⟨rfl, hB', hs', hT⟩
   exact ⟨_, rfl, SR.shut hg hB' (by simpa using hr) hc hs', hT.out⟩
  ·obtain rfl : l.length = c := by omega
   refine (insert_grow w g vb l rest x hB hV hvg hp hl hs).mono ?_
   rintro e w' ⟨k, c', rest', rfl, hk, hB', hn', hc', hs', hb⟩
   exact ⟨_, rfl, SR.shut (Nat.le_trans hbase hk) hB' (by simpa using hn') hc' hs', (Turned.of_below hb).out⟩
 ·obtain rfl : l = [] := List.eq_nil_of_length_eq_zero (by omega)
  obtain rfl := h0 rfl
  refine (insert_nil w _ 1 x (blk_C hV) (Nat.le_refl _)).mono ?_
  rintro e w' ⟨v', rfl, hR, hb⟩
  exact ⟨v', rfl, (SR.of hR).lower hbase, ⟨hb.os, hb.tape, hb.output, hb.size, fun k hk _ => hb.block k hk⟩⟩
theorem bytes_drop {l : List Int} (h : bytesOk l = true) (n : Nat) : bytesOk (l.drop n) = true := List.all_eq_true.2 fun x hx => List.all_eq_true.1 h x (List.mem_of_mem_drop hx)
theorem bytes_mem {l : List Int} (h : bytesOk l = true) {x : Int} (hx : x ∈ l) : 0 ≤ x ∧ x < 256 := by
 have := List.all_eq_true.1 h x hx
 simpa using this
theorem foldl_lt : ∀ (t : List Int) (v B : Int), (∀ x ∈ t, 0 ≤ x ∧ x < 256) → 0 ≤ v → v < B → 0 ≤ t.foldl (fun v x => v * 256 + x) v ∧ t.foldl (fun v x => v * 256 + x) v < B * 256 ^ t.length
 | [], v, B, _, h0, h1 => by simpa using ⟨h0, h1⟩
 | x :: t, v, B, h, h0, h1 => by
  have hx := h x (by simp)
  have := foldl_lt t (v * 256 + x) (B * 256) (fun y hy => h y (by simp [hy])) (by omega) (by omega)
  rw [List.foldl_cons, List.length_cons, Int.pow_succ', ← Int.mul_assoc]
  exact this
theorem uGetN_cases {l : List Int} (h : bytesOk l = true) : uGetN l = 1 ∨ uGetN l = 2 ∨ uGetN l = 4 ∨ uGetN l = 8 := by
 have h0 : 0 ≤ rd l 0 ∧ rd l 0 < 256 := by
  cases l with
  | nil => exact ⟨by decide, by decide⟩
  | cons x t => exact bytes_mem h (x := x) (by simp)
 have h1 : (rd l 0 / 64).toNat = 0 ∨ (rd l 0 / 64).toNat = 1 ∨ (rd l 0 / 64).toNat = 2 ∨ (rd l 0 / 64).toNat = 3 := by omega
 unfold uGetN
 rcases h1 with e | e | e | e <;> rw [e] <;> simp
theorem uGetV_lt {l : List Int} (h : bytesOk l = true) : 0 ≤ uGetV l ∧ uGetV l < 4611686018427387904 := by
 have h0 : 0 ≤ rd l 0 % 64 ∧ rd l 0 % 64 < 64 := by omega
 have hf := foldl_lt ((l.take (uGetN l)).drop 1) (rd l 0 % 64) 64 (fun x hx => bytes_mem h (List.mem_of_mem_take (List.mem_of_mem_drop hx))) h0.1 h0.2
 have hl : ((l.take (uGetN l)).drop 1).length ≤ 7 := by
  rw [List.length_drop, List.length_take]
  have := uGetN_cases h
  omega
 refine ⟨hf.1, Int.lt_of_lt_of_le hf.2 ?_⟩
 generalize ((l.take (uGetN l)).drop 1).length = n at hl
 have : n = 0 ∨ n = 1 ∨ n = 2 ∨ n = 3 ∨ n = 4 ∨ n = 5 ∨ n = 6 ∨ n = 7 := by omega
 rcases this with rfl | rfl | rfl | rfl | rfl | rfl | rfl | rfl <;> decide
theorem uNum_some {l l' : List Int} {v : Int} (hb : bytesOk l = true) (h : uNum l = some (v, l')) : (0 ≤ v ∧ v < 4611686018427387904) ∧ bytesOk l' = true ∧ l'.length < l.length ∧ l' = l.drop (uGetN l) ∧ v = uGetV l ∧ uGetN l ≤ l.length ∧ 0 < uGetN l := by
 have hn := uGetN_cases hb
 unfold uNum at h
 rcases uGet_cases l with e | ⟨e, hle⟩
 ·rw [e] at h; simp at h
 ·rw [e] at h
  simp only [if_true, Option.some.injEq, Prod.mk.injEq] at h
  obtain ⟨rfl, rfl⟩ := h
  exact ⟨uGetV_lt hb, bytes_drop hb _, by rw [List.length_drop]; omega, rfl, rfl, hle, by omega⟩
def rRounds : Nat → Int → List S47 → List Int → Option (List S47 × List Int)
 | 0, _, s, l => some (s, l)
 | k + 1, tp, [], l => (uNum l).bind fun r => if r.1 + 1 ≤ tp then rRounds k tp [⟨tp - (r.1 + 1), tp⟩] r.2 else none
 | k + 1, _, x :: s, l => (uNum l).bind fun r => if r.1 + 1 < x.f0 then ((uNum r.2).bind fun r2 => if r2.1 + 1 ≤ x.f0 - (r.1 + 1) then rRounds k (x.f0 - (r.1 + 1)) (⟨x.f0 - (r.1 + 1) - (r2.1 + 1), x.f0 - (r.1 + 1)⟩ :: x :: s) r2.2 else none) else none
def rSp (l : List Int) : Option (List S47 × List Int) := (uNum l).bind fun r => if 1 ≤ r.1 ∧ r.1 ≤ 32 then ((uNum r.2).bind fun r2 => rRounds r.1.toNat (r2.1 + 1) [] r2.2) else none
structure Kept2 (a b : Nat) (w w' : World) : Prop where
 os : w'.os = w.os
 tape : w'.tape = w.tape
 output : w'.output = w.output
 size : w.heap.size ≤ w'.heap.size
 block : ∀ k, k < w.heap.size → k ≠ a → k ≠ b → w'.heap[k]? = w.heap[k]?
theorem Kept2.refl (a b : Nat) (w : World) : Kept2 a b w w := ⟨rfl, rfl, rfl, Nat.le_refl _, fun _ _ _ _ => rfl⟩
theorem Kept2.trans {a b : Nat} {w w1 w2 : World} (h : Kept2 a b w w1) (h2 : Kept2 a b w1 w2) : Kept2 a b w w2 := ⟨h2.os.trans h.os, h2.tape.trans h.tape, h2.output.trans h.output, Nat.le_trans h.size h2.size, fun k hk ha hb => (h2.block k (Nat.lt_of_lt_of_le hk h.size) ha hb).trans (h.block k hk ha hb)⟩
theorem Kept2.below {a b : Nat} {w w1 w2 : World} (h : Kept2 a b w w1) (h2 : Below w1.heap.size w1 w2) : Kept2 a b w w2 := h.trans ⟨h2.os, h2.tape, h2.output, h2.size, fun k hk _ _ => h2.block k hk⟩
theorem Kept2.one {a b : Nat} {w w1 w2 : World} (h : Kept2 a b w w1) (h2 : Turned a w1 w2) : Kept2 a b w w2 := h.trans ⟨h2.out.os, h2.out.tape, h2.out.output, h2.out.size, fun k hk ha _ => h2.out.block k hk (fun e => ha (Option.some.inj e))⟩
theorem Kept2.two {a b : Nat} {w w1 w2 : World} (h : Kept2 a b w w1) (h2 : Turned b w1 w2) : Kept2 a b w w2 := h.trans ⟨h2.out.os, h2.out.tape, h2.out.output, h2.out.size, fun k hk _ hb => h2.out.block k hk (fun e => hb (Option.some.inj e))⟩
theorem Kept2.set {a b i : Nat} {w w1 : World} {u : Value} (h : Kept2 a b w w1) : Kept2 a b w (w1.setCell ⟨b, i, none⟩ u) := h.two (Turned.refl b w1).set
theorem Kept2.row {a b : Nat} {w w1 w2 : World} {o : Option Nat} (h : Kept2 a b w w1) (h2 : w1.grownBy w2 o) (ho : ∀ k, o = some k → w.heap.size ≤ k) : Kept2 a b w w2 := ⟨h2.os.trans h.os, h2.tape.trans h.tape, h2.output.trans h.output, Nat.le_trans h.size h2.size, fun k hk ha hb => (h2.block k (Nat.lt_of_lt_of_le hk h.size) (fun e => by have := ho k e.symm; omega)).trans (h.block k hk ha hb)⟩
theorem Since.kept {w0 w w1 : World} {a b : Nat} (h : Since w0 w) (h2 : Kept2 a b w w1) (ha : w0.heap.size ≤ a) (hb : w0.heap.size ≤ b) : Since w0 w1 := ⟨h.out.trans ⟨h2.os, h2.tape, h2.output, h2.size, fun k hk => h2.block k (Nat.lt_of_lt_of_le hk h.le) (by omega) (by omega)⟩⟩
theorem Since.row {w0 w w1 : World} {o : Option Nat} (h : Since w0 w) (h2 : w.grownBy w1 o) (ho : ∀ k, o = some k → w0.heap.size ≤ k) : Since w0 w1 := ⟨h.out.trans ⟨h2.os, h2.tape, h2.output, h2.size, fun k hk => h2.block k (Nat.lt_of_lt_of_le hk h.le) (fun e => by have := ho k e.symm; omega)⟩⟩
theorem Blk.turned {w w1 : World} {g k : Nat} {t : TypeId} {l : List Value} (h : Blk w g t l) (hT : Turned k w w1) (hne : g ≠ k) : Blk w1 g t l := h.grown hT.out hne
theorem Blk.row {w w1 : World} {g : Nat} {t : TypeId} {l : List Value} {o : Option Nat} (h : Blk w g t l) (hg : w.grownBy w1 o) (hne : some g ≠ o) : Blk w1 g t l := ⟨blk_grown h.out hg hne⟩
theorem Src.below {w0 w w1 : World} {sb : Nat} {l : List Int} (h : Src w0 w sb l) (hb : Below w.heap.size w w1) : Src w0 w1 sb l := by obtain ⟨A, c, hB, hr⟩ := h.out; exact ⟨h.ge, A, c, hB.below hb, hr⟩
theorem Src.row {w0 w w1 : World} {sb : Nat} {l : List Int} {o : Option Nat} (h : Src w0 w sb l) (hg : w.grownBy w1 o) (hne : some sb ≠ o) : Src w0 w1 sb l := by obtain ⟨A, c, hB, hr⟩ := h.out; exact ⟨h.ge, A, c, hB.row hg hne, hr⟩
theorem Src.setFar {w0 w : World} {sb k i : Nat} {u : Value} {l : List Int} (h : Src w0 w sb l) (hne : sb ≠ k) : Src w0 (w.setCell ⟨k, i, none⟩ u) sb l := by obtain ⟨A, c, hB, hr⟩ := h.out; exact ⟨h.ge, A, c, hB.setFar hne, hr⟩
theorem Src.drew {w0 w : World} {sb : Nat} {l : List Int} (h : Src w0 w sb l) : Src w0 w.drew sb l := by obtain ⟨A, c, hB, hr⟩ := h.out; exact ⟨h.ge, A, c, hB.drew, hr⟩
theorem Kept2.drew {a b : Nat} {w w1 : World} (h : Kept2 a b w w1) : Kept2 a b w w1.drew := h.two (Turned.refl b w1).drew
theorem Src.ne {w0 w : World} {sb g t : Nat} {l : List Int} {cs : List Value} (h : Src w0 w sb l) (hB : Blk w g t cs) (ht : t ≠ 73) : g ≠ sb := by obtain ⟨A, c, hS, _⟩ := h.out; exact blk_ne_of hB hS ht
theorem SR.ne {base : Nat} {w : World} {v : Value} {l : List S47} {g t : Nat} {cs : List Value} (h : SR base w v l) (hB : Blk w g t cs) (ht : t ≠ 47) : some g ≠ v.ownBlock := fun e => by
 obtain ⟨cells, hc⟩ := own_typed h.out g e.symm
 have := hB.out.symm.trans hc
 injection this with this
 injection this with _ this _
 exact ht this
theorem SR.ge {base : Nat} {w : World} {v : Value} {l : List S47} (h : SR base w v l) : ∀ k, v.ownBlock = some k → base ≤ k := Kd.R_base h.to
theorem SR.setFar {base : Nat} {w : World} {v : Value} {l : List S47} {g t i : Nat} {cs : List Value} {u : Value} (h : SR base w v l) (hB : Blk w g t cs) (ht : t ≠ 47) : SR base (w.setCell ⟨g, i, none⟩ u) v l := h.grown hB ht ((Turned.refl g w).set).out
theorem SR.turnedS {base : Nat} {w0 w w1 : World} {v : Value} {l : List S47} {sb : Nat} {bs : List Int} (h : SR base w v l) (hS : Src w0 w sb bs) (hT : Turned sb w w1) : SR base w1 v l := by obtain ⟨A, c, hB, _⟩ := hS.out; exact h.grown hB (by decide) hT.out
theorem Src.away {base : Nat} {w0 w : World} {v : Value} {l : List S47} {sb : Nat} {bs : List Int} (hS : Src w0 w sb bs) (h : SR base w v l) : some sb ≠ v.ownBlock := by obtain ⟨A, c, hB, _⟩ := hS.out; exact h.ne hB (by decide)
section
variable {P : Program} {ops : Array Oper} {rest : List Oper} {o : Oper} {a : Act} {Q : Exit → Act → World → Prop} {W : World}
theorem seg_lit (hgd : o.guard = none) {N : Tmp} (_hd : o.dst = some N) (l : List Value) (t : TypeId) (n : Nat)
  (hrun : (execOp a.eval o).run P W = .ok (.value (.slice (some ⟨W.heap.size, 0, none⟩) n n)) (W.alloc (.cells l.toArray t (0, 0))))
  (h : ∀ g, g = W.heap.size → ∀ w1, Blk w1 g t l → Below W.heap.size W w1 → wpList P ops Q rest (a.put o.dst (.slice (some ⟨g, 0, none⟩) n n)) w1) : wpList P ops Q (o :: rest) a W := by
 refine wpList_plain hgd fun K hK => ?_
 unfold Oper.wp
 rw [hrun]
 exact hK _ _ (h _ rfl _ (blkNew W l t) (below_alloc (Below.refl _ _) _))
end
def okS : Option Int → List S47 → Bool
 | _, [] => true
 | p, x :: l => decide (x.f0 < x.f1) && decide (x.f1 ≤ 4611686018427387904) && (match p with | none => true | some q => decide (q < x.f0)) && okS (some x.f1) l
def spOk (l : List S47) : Bool := decide (1 ≤ l.length) && decide (l.length ≤ 32) && okS none l
def prevS (l : List S47) (i : Nat) : Option Int := if i = 0 then none else some (l.getD (i - 1) z47).f1
theorem rdT {l : List S47} {i : Nat} : rd_T47 l (i : Int) = l.getD i z47 := by simp [rd_T47]
theorem prevS_succ (l : List S47) (i : Nat) : prevS l (i + 1) = some (l.getD i z47).f1 := by simp [prevS]
theorem okS_step {l : List S47} {i : Nat} (h : i < l.length) : okS (prevS l i) (l.drop i) = (decide ((l.getD i z47).f0 < (l.getD i z47).f1) && decide ((l.getD i z47).f1 ≤ 4611686018427387904) && (if i = 0 then true else decide ((l.getD (i - 1) z47).f1 < (l.getD i z47).f0)) && okS (prevS l (i + 1)) (l.drop (i + 1))) := by
 rw [prevS_succ, List.drop_eq_getElem_cons h, okS.eq_def]
 simp only
 have e : l[i] = l.getD i z47 := by simp [List.getD, List.getElem?_eq_getElem h]
 rw [e]
 congr 2
 unfold prevS
 split <;> simp_all
theorem sp_loop (l : List S47) (hl : l.length < 1000000) : ∀ d K i : Nat, i + d = l.length → d < K → frame_spans.l0 K l l (l.length : Int) (i : Int) = some (if okS (prevS l i) (l.drop i) = true then decide (1 ≤ l.length) && decide (l.length ≤ 32) else false) := by
 intro d
 induction d with
 | zero =>
  intro K i hi hk
  obtain ⟨k, rfl⟩ : ∃ k, K = k + 1 := ⟨K - 1, by omega⟩
  rw [frame_spans.l0, if_neg (by omega), List.drop_of_length_le (by omega)]
  simp only [okS, if_true]
  by_cases h1 : (l.length : Int) ≥ 1
  ·rw [if_pos h1, decide_eq_true (by omega : 1 ≤ l.length), Bool.true_and]
   congr 1
   by_cases h2 : l.length ≤ 32
   ·rw [decide_eq_true h2, decide_eq_true (by omega)]
   ·rw [decide_eq_false h2, decide_eq_false (by omega)]
  ·rw [if_neg h1, decide_eq_false (by omega : ¬ 1 ≤ l.length), Bool.false_and]
 | succ d ih =>
  intro K i hi hk
  obtain ⟨k, rfl⟩ : ∃ k, K = k + 1 := ⟨K - 1, by omega⟩
  have hlt : i < l.length := by omega
  have hn : wrap64 ((i : Int) + 1) = ((i + 1 : Nat) : Int) := by unfold wrap64; omega
  have ih' := ih k (i + 1) (by omega) (by omega)
  rw [frame_spans.l0, if_pos (by omega), if_pos (by omega), if_pos (by omega), okS_step hlt, hn, ih', rdT]
  by_cases h1 : (l.getD i z47).f0 ≥ (l.getD i z47).f1
  ·rw [if_pos h1, decide_eq_false (by omega : ¬ (l.getD i z47).f0 < (l.getD i z47).f1)]; simp
  ·rw [if_neg h1, decide_eq_true (by omega : (l.getD i z47).f0 < (l.getD i z47).f1)]
   by_cases h2 : (l.getD i z47).f1 > 4611686018427387904
   ·rw [if_pos h2, decide_eq_false (by omega : ¬ (l.getD i z47).f1 ≤ 4611686018427387904)]; simp
   ·rw [if_neg h2, decide_eq_true (by omega : (l.getD i z47).f1 ≤ 4611686018427387904)]
    by_cases h3 : i = 0
    ·rw [if_neg (by omega), if_pos h3]; simp
    ·have hp : wrap64 ((i : Int) - 1) = ((i - 1 : Nat) : Int) := by unfold wrap64; omega
     rw [if_pos (by omega), hp, if_pos (by omega), if_pos (by omega), rdT, if_neg h3]
     by_cases h4 : (l.getD i z47).f0 ≤ (l.getD (i - 1) z47).f1
     ·rw [if_pos h4, decide_eq_false (by omega : ¬ (l.getD (i - 1) z47).f1 < (l.getD i z47).f0)]; simp
     ·rw [if_neg h4, decide_eq_true (by omega : (l.getD (i - 1) z47).f1 < (l.getD i z47).f0)]; simp
theorem sp_eq {l : List S47} {K : Nat} (hl : l.length < 1000000) (hk : l.length < K) : frame_spans.f K l = some (spOk l) := by
 have h := sp_loop l hl l.length K 0 (by omega) (by omega)
 rw [frame_spans.f, show (0 : Int) = ((0 : Nat) : Int) from rfl, h]
 simp only [prevS, if_true, List.drop_zero, spOk]
 congr 1
 cases okS none l <;> simp
def uChk (a0 a1 a2 a3 a4 a5 a6 : Int) (a7 : Bool) (n : Nat) (l9 : List S47) : Int :=
 match fOffs a0 with
 | none => 50
 | some os => if uBad os a1 a2 a3 a4 a5 a6 = true then 50 else if a0 = 2 ∨ a0 = 3 then (if spOk l9 = true then uTail a0 a2 a7 n else 50) else if 0 < l9.length then 50 else uTail a0 a2 a7 n
theorem chk_eq {K : Nat} {a0 a1 a2 a3 a4 a5 a6 : Int} {a7 : Bool} {l8 : List Int} {l9 : List S47} (W1 : W64 a1) (W2 : W64 a2) (W3 : W64 a3) (W4 : W64 a4) (W5 : W64 a5) (W6 : W64 a6) (h8 : l8.length < 1000000) (h9 : l9.length < 1000000) (hK : l9.length < K) :
  frame_Check.f K a0 a1 a2 a3 a4 a5 a6 a7 l8 l9 = some (uChk a0 a1 a2 a3 a4 a5 a6 a7 l8.length l9) := by
 unfold frame_Check.f uChk
 rw [if_pos ⟨W1, W2, W3, W4, W5, W6, h8, h9⟩, sp_eq h9 hK]
 cases fOffs a0 with
 | none => rfl
 | some os =>
  simp only [Option.bind_some]
  repeat' split
  all_goals rfl
theorem rRounds_len : ∀ (k : Nat) (tp : Int) (s : List S47) (l : List Int) {s' : List S47} {l' : List Int}, bytesOk l = true → rRounds k tp s l = some (s', l') → s'.length = s.length + k ∧ bytesOk l' = true ∧ l'.length ≤ l.length
 | 0, tp, s, l, s', l', hb, h => by
  simp only [rRounds, Option.some.injEq, Prod.mk.injEq] at h
  obtain ⟨rfl, rfl⟩ := h
  exact ⟨rfl, hb, Nat.le_refl _⟩
 | k + 1, tp, [], l, s', l', hb, h => by
  unfold rRounds at h
  cases hN : uNum l with
  | none => rw [hN] at h; cases h
  | some r =>
   rw [hN, Option.bind_some] at h
   obtain ⟨v, l1⟩ := r
   obtain ⟨_, hb1, hl1, _⟩ := uNum_some hb hN
   split at h
   ·have := rRounds_len k _ _ l1 hb1 h
    simp only [List.length_cons, List.length_nil] at this ⊢
    exact ⟨by omega, this.2.1, by omega⟩
   ·cases h
 | k + 1, tp, x :: s, l, s', l', hb, h => by
  unfold rRounds at h
  cases hN : uNum l with
  | none => rw [hN] at h; cases h
  | some r =>
   rw [hN, Option.bind_some] at h
   obtain ⟨v, l1⟩ := r
   obtain ⟨_, hb1, hl1, _⟩ := uNum_some hb hN
   split at h
   ·cases hN1 : uNum l1 with
    | none => rw [hN1] at h; cases h
    | some r =>
     rw [hN1, Option.bind_some] at h
     obtain ⟨v, l2⟩ := r
     obtain ⟨_, hb2, hl2, _⟩ := uNum_some hb1 hN1
     split at h
     ·have := rRounds_len k _ _ l2 hb2 h
      simp only [List.length_cons] at this ⊢
      exact ⟨by omega, this.2.1, by omega⟩
     ·cases h
   ·cases h
theorem rSp_len {l l' : List Int} {s : List S47} (hb : bytesOk l = true) (h : rSp l = some (s, l')) : s.length ≤ 32 ∧ bytesOk l' = true ∧ l'.length ≤ l.length := by
 unfold rSp at h
 cases hN : uNum l with
 | none => rw [hN] at h; cases h
 | some r =>
  rw [hN, Option.bind_some] at h
  obtain ⟨v, l1⟩ := r
  obtain ⟨_, hb1, hl1, _⟩ := uNum_some hb hN
  split at h
  ·rename_i hg
   cases hN1 : uNum l1 with
   | none => rw [hN1] at h; cases h
   | some r =>
    rw [hN1, Option.bind_some] at h
    obtain ⟨v, l2⟩ := r
    obtain ⟨_, hb2, hl2, _⟩ := uNum_some hb1 hN1
    obtain ⟨h1, h2, h3⟩ := rRounds_len _ _ _ _ hb2 h
    simp only [List.length_nil] at h1
    simp only at hg
    exact ⟨by omega, h2, by omega⟩
  ·cases h
def upd (f : Nat → Int) (o : Nat) (v : Int) : Nat → Int := fun j => if j = o then v else f j
def rNums : List Nat → (Nat → Int) → List Int → Option ((Nat → Int) × List Int)
 | [], f, l => some (f, l)
 | o :: os, f, l => (uNum l).bind fun r => rNums os (upd f o r.1) r.2
abbrev FrV := Int × (Nat → Int) × Bool × List Int × List S47 × List Int
def rChk (K : Int) (fin : Bool) (s : List S47) (f : Nat → Int) (d l : List Int) : Option FrV := if uChk K (f 1) (f 2) (f 3) (f 4) (f 5) (f 6) fin d.length s = 0 then some (K, f, fin, d, s, l) else none
def rEnd (K : Int) (fin : Bool) (s : List S47) (f : Nat → Int) (l : List Int) : Option FrV :=
 if K = 14 then (uNum l).bind fun r => if r.1 ≤ r.2.length then rChk K fin s f (r.2.take r.1.toNat) (r.2.drop r.1.toNat) else none else rChk K fin s f [] l
def rKind (K : Int) (fin : Bool) (l : List Int) : Option FrV :=
 match fOffs K with
 | none => none
 | some os => if K = 2 ∨ K = 3 then (rSp l).bind fun r => (rNums os (fun _ => 0) r.2).bind fun q => rEnd K fin r.1 q.1 q.2 else (rNums os (fun _ => 0) l).bind fun q => rEnd K fin [] q.1 q.2
def rFr (l : List Int) : Option FrV := (uNum l).bind fun r => if r.1 ≤ 30 then (if r.1 = 15 then rKind 14 true r.2 else rKind r.1 false r.2) else none
def cellsR (sb : Nat) (K : Int) (f : Nat → Int) (fin : Bool) (d s : Value) : List Value := [.pointer (some ⟨sb, 0, none⟩), .int .i64 K, .int .u64 (f 1), .int .u64 (f 2), .int .u64 (f 3), .int .u64 (f 4), .int .u64 (f 5), .int .u64 (f 6), .bool fin, d, s]
theorem cellsR_set (sb : Nat) (K : Int) (f : Nat → Int) (fin : Bool) (d s : Value) (o : Nat) (v : Int) (h : 1 ≤ o) (h' : o ≤ 6) : (cellsR sb K f fin d s).set (o + 1) (.int .u64 v) = cellsR sb K (upd f o v) fin d s := by
 have : o = 1 ∨ o = 2 ∨ o = 3 ∨ o = 4 ∨ o = 5 ∨ o = 6 := by omega
 rcases this with rfl | rfl | rfl | rfl | rfl | rfl <;> rfl
theorem cellsR_at (sb : Nat) (K : Int) (f : Nat → Int) (fin : Bool) (d s : Value) (o : Nat) (h : 1 ≤ o) (h' : o ≤ 6) : (cellsR sb K f fin d s)[o + 1]? = some (.int .u64 (f o)) := by
 have : o = 1 ∨ o = 2 ∨ o = 3 ∨ o = 4 ∨ o = 5 ∨ o = 6 := by omega
 rcases this with rfl | rfl | rfl | rfl | rfl | rfl <;> rfl
def Small (f : Nat → Int) : Prop := ∀ j, 0 ≤ f j ∧ f j < 4611686018427387904
theorem Small.upd {f : Nat → Int} (h : Small f) {v : Int} (hv : 0 ≤ v ∧ v < 4611686018427387904) (o : Nat) : Small (upd f o v) := fun j => by unfold Proofs.Ytphakdfholkbdaa.upd; split; exact hv; exact h j
theorem Small.w {f : Nat → Int} (h : Small f) (j : Nat) : W64 (f j) := ⟨(h j).1, by have := (h j).2; omega⟩
theorem Small.zero : Small (fun _ => 0) := fun _ => ⟨Int.le_refl _, show (0 : Int) < 4611686018427387904 by decide⟩
theorem OW.nil (w0 w : World) : OW w0 w (.slice none 0 0) [] := ⟨Kd.R_nil _ _ _ _ _⟩
theorem dfields_0 (g : Nat) (w : World) (hk : w.cell? ⟨g, 1, none⟩ = some (.int .i64 0)) : Calls Try.prog 26 #[.pointer (some ⟨g, 1, none⟩)] w (FPost g [] w) := by
 have hu := Try.underlying27
 go_enter Try.func26, Try.ntmps26
 go_wp2_with ((go_at_call 39); with_reducible refine (fields1 _ _).mono ?_; rintro e w' ⟨rfl, rfl⟩)
 all_goals go_ret2
 all_goals exact ⟨_, rfl, fun h => absurd rfl h, Below.refl _ _⟩
theorem dfields_1 (g : Nat) (w : World) (hk : w.cell? ⟨g, 1, none⟩ = some (.int .i64 1)) : Calls Try.prog 26 #[.pointer (some ⟨g, 1, none⟩)] w (FPost g [] w) := by
 have hu := Try.underlying27
 go_enter Try.func26, Try.ntmps26
 go_wp2_with ((go_at_call 39); with_reducible refine (fields1 _ _).mono ?_; rintro e w' ⟨rfl, rfl⟩)
 all_goals go_ret2
 all_goals exact ⟨_, rfl, fun h => absurd rfl h, Below.refl _ _⟩
theorem dfields_30 (g : Nat) (w : World) (hk : w.cell? ⟨g, 1, none⟩ = some (.int .i64 30)) : Calls Try.prog 26 #[.pointer (some ⟨g, 1, none⟩)] w (FPost g [] w) := by
 have hu := Try.underlying27
 go_enter Try.func26, Try.ntmps26
 go_wp2_with ((go_at_call 39); with_reducible refine (fields1 _ _).mono ?_; rintro e w' ⟨rfl, rfl⟩)
 all_goals go_ret2
 all_goals exact ⟨_, rfl, fun h => absurd rfl h, Below.refl _ _⟩
theorem dfields_2 (g : Nat) (w : World) (hk : w.cell? ⟨g, 1, none⟩ = some (.int .i64 2)) : Calls Try.prog 26 #[.pointer (some ⟨g, 1, none⟩)] w (FPost g [6] w) := by
 have hu := Try.underlying27
 go_enter Try.func26, Try.ntmps26
 go_wp2_with ((go_at_call 39); with_reducible refine (fields1 _ _).mono ?_; rintro e w' ⟨rfl, rfl⟩)
 all_goals go_ret2
 all_goals exact ⟨_, rfl, fun _ => ⟨_, rfl, by first | exact blkNew _ [.pointer (some ⟨g, 6, none⟩)] 60 | exact (blkNew _ [.pointer (some ⟨g, 6, none⟩)] 60).drew⟩, by first | exact below_alloc (Below.refl _ _) _ | exact below_drew1 (below_alloc (Below.refl _ _) _) | exact below_alloc (below_drew1 (Below.refl _ _)) _⟩
theorem dfields_3 (g : Nat) (w : World) (hk : w.cell? ⟨g, 1, none⟩ = some (.int .i64 3)) : Calls Try.prog 26 #[.pointer (some ⟨g, 1, none⟩)] w (FPost g [6, 7] w) := by
 have hu := Try.underlying27
 go_enter Try.func26, Try.ntmps26
 go_wp2_with ((go_at_call 39); with_reducible refine (fields1 _ _).mono ?_; rintro e w' ⟨rfl, rfl⟩)
 go_region_with ((go_at_call 39); with_reducible refine (fields1 _ _).mono ?_; rintro e w' ⟨rfl, rfl⟩)
 all_goals go_wp2
 all_goals go_ret2
 all_goals exact ⟨_, rfl, fun _ => ⟨_, rfl, by first | exact blkNew _ [.pointer (some ⟨g, 6, none⟩), .pointer (some ⟨g, 7, none⟩)] 60 | exact (blkNew _ [.pointer (some ⟨g, 6, none⟩), .pointer (some ⟨g, 7, none⟩)] 60).drew⟩, by first | exact below_alloc (Below.refl _ _) _ | exact below_drew1 (below_alloc (Below.refl _ _) _) | exact below_alloc (below_drew1 (Below.refl _ _)) _⟩
theorem dfields_4 (g : Nat) (w : World) (hk : w.cell? ⟨g, 1, none⟩ = some (.int .i64 4)) : Calls Try.prog 26 #[.pointer (some ⟨g, 1, none⟩)] w (FPost g [2, 5, 4] w) := by
 have hu := Try.underlying27
 go_enter Try.func26, Try.ntmps26
 go_wp2_with ((go_at_call 39); with_reducible refine (fields1 _ _).mono ?_; rintro e w' ⟨rfl, rfl⟩)
 go_region_with ((go_at_call 39); with_reducible refine (fields1 _ _).mono ?_; rintro e w' ⟨rfl, rfl⟩)
 all_goals go_wp2
 all_goals go_ret2
 all_goals exact ⟨_, rfl, fun _ => ⟨_, rfl, by first | exact blkNew _ [.pointer (some ⟨g, 2, none⟩), .pointer (some ⟨g, 5, none⟩), .pointer (some ⟨g, 4, none⟩)] 60 | exact (blkNew _ [.pointer (some ⟨g, 2, none⟩), .pointer (some ⟨g, 5, none⟩), .pointer (some ⟨g, 4, none⟩)] 60).drew⟩, by first | exact below_alloc (Below.refl _ _) _ | exact below_drew1 (below_alloc (Below.refl _ _) _) | exact below_alloc (below_drew1 (Below.refl _ _)) _⟩
theorem dfields_5 (g : Nat) (w : World) (hk : w.cell? ⟨g, 1, none⟩ = some (.int .i64 5)) : Calls Try.prog 26 #[.pointer (some ⟨g, 1, none⟩)] w (FPost g [2, 5] w) := by
 have hu := Try.underlying27
 go_enter Try.func26, Try.ntmps26
 go_wp2_with ((go_at_call 39); with_reducible refine (fields1 _ _).mono ?_; rintro e w' ⟨rfl, rfl⟩)
 go_region_with ((go_at_call 39); with_reducible refine (fields1 _ _).mono ?_; rintro e w' ⟨rfl, rfl⟩)
 all_goals go_wp2
 all_goals go_ret2
 all_goals exact ⟨_, rfl, fun _ => ⟨_, rfl, by first | exact blkNew _ [.pointer (some ⟨g, 2, none⟩), .pointer (some ⟨g, 5, none⟩)] 60 | exact (blkNew _ [.pointer (some ⟨g, 2, none⟩), .pointer (some ⟨g, 5, none⟩)] 60).drew⟩, by first | exact below_alloc (Below.refl _ _) _ | exact below_drew1 (below_alloc (Below.refl _ _) _) | exact below_alloc (below_drew1 (Below.refl _ _)) _⟩
theorem dfields_6 (g : Nat) (w : World) (hk : w.cell? ⟨g, 1, none⟩ = some (.int .i64 6)) : Calls Try.prog 26 #[.pointer (some ⟨g, 1, none⟩)] w (FPost g [4, 3, 2] w) := by
 have hu := Try.underlying27
 go_enter Try.func26, Try.ntmps26
 go_wp2_with ((go_at_call 39); with_reducible refine (fields1 _ _).mono ?_; rintro e w' ⟨rfl, rfl⟩)
 go_region_with ((go_at_call 39); with_reducible refine (fields1 _ _).mono ?_; rintro e w' ⟨rfl, rfl⟩)
 all_goals go_wp2
 all_goals go_ret2
 all_goals exact ⟨_, rfl, fun _ => ⟨_, rfl, by first | exact blkNew _ [.pointer (some ⟨g, 4, none⟩), .pointer (some ⟨g, 3, none⟩), .pointer (some ⟨g, 2, none⟩)] 60 | exact (blkNew _ [.pointer (some ⟨g, 4, none⟩), .pointer (some ⟨g, 3, none⟩), .pointer (some ⟨g, 2, none⟩)] 60).drew⟩, by first | exact below_alloc (Below.refl _ _) _ | exact below_drew1 (below_alloc (Below.refl _ _) _) | exact below_alloc (below_drew1 (Below.refl _ _)) _⟩
theorem dfields_14 (g : Nat) (w : World) (hk : w.cell? ⟨g, 1, none⟩ = some (.int .i64 14)) : Calls Try.prog 26 #[.pointer (some ⟨g, 1, none⟩)] w (FPost g [2, 3] w) := by
 have hu := Try.underlying27
 go_enter Try.func26, Try.ntmps26
 go_wp2_with ((go_at_call 39); with_reducible refine (fields1 _ _).mono ?_; rintro e w' ⟨rfl, rfl⟩)
 go_region_with ((go_at_call 39); with_reducible refine (fields1 _ _).mono ?_; rintro e w' ⟨rfl, rfl⟩)
 all_goals go_wp2
 all_goals go_ret2
 all_goals exact ⟨_, rfl, fun _ => ⟨_, rfl, by first | exact blkNew _ [.pointer (some ⟨g, 2, none⟩), .pointer (some ⟨g, 3, none⟩)] 60 | exact (blkNew _ [.pointer (some ⟨g, 2, none⟩), .pointer (some ⟨g, 3, none⟩)] 60).drew⟩, by first | exact below_alloc (Below.refl _ _) _ | exact below_drew1 (below_alloc (Below.refl _ _) _) | exact below_alloc (below_drew1 (Below.refl _ _)) _⟩
theorem dfields_16 (g : Nat) (w : World) (hk : w.cell? ⟨g, 1, none⟩ = some (.int .i64 16)) : Calls Try.prog 26 #[.pointer (some ⟨g, 1, none⟩)] w (FPost g [4] w) := by
 have hu := Try.underlying27
 go_enter Try.func26, Try.ntmps26
 go_wp2_with ((go_at_call 39); with_reducible refine (fields1 _ _).mono ?_; rintro e w' ⟨rfl, rfl⟩)
 all_goals go_ret2
 all_goals exact ⟨_, rfl, fun _ => ⟨_, rfl, by first | exact blkNew _ [.pointer (some ⟨g, 4, none⟩)] 60 | exact (blkNew _ [.pointer (some ⟨g, 4, none⟩)] 60).drew⟩, by first | exact below_alloc (Below.refl _ _) _ | exact below_drew1 (below_alloc (Below.refl _ _) _) | exact below_alloc (below_drew1 (Below.refl _ _)) _⟩
theorem dfields_18 (g : Nat) (w : World) (hk : w.cell? ⟨g, 1, none⟩ = some (.int .i64 18)) : Calls Try.prog 26 #[.pointer (some ⟨g, 1, none⟩)] w (FPost g [4] w) := by
 have hu := Try.underlying27
 go_enter Try.func26, Try.ntmps26
 go_wp2_with ((go_at_call 39); with_reducible refine (fields1 _ _).mono ?_; rintro e w' ⟨rfl, rfl⟩)
 all_goals go_ret2
 all_goals exact ⟨_, rfl, fun _ => ⟨_, rfl, by first | exact blkNew _ [.pointer (some ⟨g, 4, none⟩)] 60 | exact (blkNew _ [.pointer (some ⟨g, 4, none⟩)] 60).drew⟩, by first | exact below_alloc (Below.refl _ _) _ | exact below_drew1 (below_alloc (Below.refl _ _) _) | exact below_alloc (below_drew1 (Below.refl _ _)) _⟩
theorem dfields_20 (g : Nat) (w : World) (hk : w.cell? ⟨g, 1, none⟩ = some (.int .i64 20)) : Calls Try.prog 26 #[.pointer (some ⟨g, 1, none⟩)] w (FPost g [4] w) := by
 have hu := Try.underlying27
 go_enter Try.func26, Try.ntmps26
 go_wp2_with ((go_at_call 39); with_reducible refine (fields1 _ _).mono ?_; rintro e w' ⟨rfl, rfl⟩)
 all_goals go_ret2
 all_goals exact ⟨_, rfl, fun _ => ⟨_, rfl, by first | exact blkNew _ [.pointer (some ⟨g, 4, none⟩)] 60 | exact (blkNew _ [.pointer (some ⟨g, 4, none⟩)] 60).drew⟩, by first | exact below_alloc (Below.refl _ _) _ | exact below_drew1 (below_alloc (Below.refl _ _) _) | exact below_alloc (below_drew1 (Below.refl _ _)) _⟩
theorem dfields_17 (g : Nat) (w : World) (hk : w.cell? ⟨g, 1, none⟩ = some (.int .i64 17)) : Calls Try.prog 26 #[.pointer (some ⟨g, 1, none⟩)] w (FPost g [2, 4] w) := by
 have hu := Try.underlying27
 go_enter Try.func26, Try.ntmps26
 go_wp2_with ((go_at_call 39); with_reducible refine (fields1 _ _).mono ?_; rintro e w' ⟨rfl, rfl⟩)
 go_region_with ((go_at_call 39); with_reducible refine (fields1 _ _).mono ?_; rintro e w' ⟨rfl, rfl⟩)
 all_goals go_wp2
 all_goals go_ret2
 all_goals exact ⟨_, rfl, fun _ => ⟨_, rfl, by first | exact blkNew _ [.pointer (some ⟨g, 2, none⟩), .pointer (some ⟨g, 4, none⟩)] 60 | exact (blkNew _ [.pointer (some ⟨g, 2, none⟩), .pointer (some ⟨g, 4, none⟩)] 60).drew⟩, by first | exact below_alloc (Below.refl _ _) _ | exact below_drew1 (below_alloc (Below.refl _ _) _) | exact below_alloc (below_drew1 (Below.refl _ _)) _⟩
theorem dfields_21 (g : Nat) (w : World) (hk : w.cell? ⟨g, 1, none⟩ = some (.int .i64 21)) : Calls Try.prog 26 #[.pointer (some ⟨g, 1, none⟩)] w (FPost g [2, 4] w) := by
 have hu := Try.underlying27
 go_enter Try.func26, Try.ntmps26
 go_wp2_with ((go_at_call 39); with_reducible refine (fields1 _ _).mono ?_; rintro e w' ⟨rfl, rfl⟩)
 go_region_with ((go_at_call 39); with_reducible refine (fields1 _ _).mono ?_; rintro e w' ⟨rfl, rfl⟩)
 all_goals go_wp2
 all_goals go_ret2
 all_goals exact ⟨_, rfl, fun _ => ⟨_, rfl, by first | exact blkNew _ [.pointer (some ⟨g, 2, none⟩), .pointer (some ⟨g, 4, none⟩)] 60 | exact (blkNew _ [.pointer (some ⟨g, 2, none⟩), .pointer (some ⟨g, 4, none⟩)] 60).drew⟩, by first | exact below_alloc (Below.refl _ _) _ | exact below_drew1 (below_alloc (Below.refl _ _) _) | exact below_alloc (below_drew1 (Below.refl _ _)) _⟩
theorem dfields_28 (g : Nat) (w : World) (hk : w.cell? ⟨g, 1, none⟩ = some (.int .i64 28)) : Calls Try.prog 26 #[.pointer (some ⟨g, 1, none⟩)] w (FPost g [5] w) := by
 have hu := Try.underlying27
 go_enter Try.func26, Try.ntmps26
 go_wp2_with ((go_at_call 39); with_reducible refine (fields1 _ _).mono ?_; rintro e w' ⟨rfl, rfl⟩)
 all_goals go_ret2
 all_goals exact ⟨_, rfl, fun _ => ⟨_, rfl, by first | exact blkNew _ [.pointer (some ⟨g, 5, none⟩)] 60 | exact (blkNew _ [.pointer (some ⟨g, 5, none⟩)] 60).drew⟩, by first | exact below_alloc (Below.refl _ _) _ | exact below_drew1 (below_alloc (Below.refl _ _) _) | exact below_alloc (below_drew1 (Below.refl _ _)) _⟩
theorem dfields_no (a0 : Int) (g : Nat) (w : World) (hk : w.cell? ⟨g, 1, none⟩ = some (.int .i64 a0)) (hn : fOffs a0 = none) : Calls Try.prog 26 #[.pointer (some ⟨g, 1, none⟩)] w fun e w' => e = .returned (.tuple #[.slice none 0 0, .bool false]) ∧ w = w' := by
 have hu := Try.underlying27
 have h : a0 ≠ 0 ∧ a0 ≠ 1 ∧ a0 ≠ 30 ∧ a0 ≠ 2 ∧ a0 ≠ 3 ∧ a0 ≠ 4 ∧ a0 ≠ 5 ∧ a0 ≠ 6 ∧ a0 ≠ 14 ∧ a0 ≠ 16 ∧ a0 ≠ 18 ∧ a0 ≠ 20 ∧ a0 ≠ 17 ∧ a0 ≠ 21 ∧ a0 ≠ 28 := by
  unfold fOffs at hn
  repeat (first | omega | (split at hn; (· cases hn)))
 clear hn
 obtain ⟨n0, n1, n30, n2, n3, n4, n5, n6, n14, n16, n18, n20, n17, n21, n28⟩ := h
 have e0 : (a0 == 0) = false := beq_eq_false_iff_ne.mpr n0
 have e1 : (a0 == 1) = false := beq_eq_false_iff_ne.mpr n1
 have e30 : (a0 == 30) = false := beq_eq_false_iff_ne.mpr n30
 have e2 : (a0 == 2) = false := beq_eq_false_iff_ne.mpr n2
 have e3 : (a0 == 3) = false := beq_eq_false_iff_ne.mpr n3
 have e4 : (a0 == 4) = false := beq_eq_false_iff_ne.mpr n4
 have e5 : (a0 == 5) = false := beq_eq_false_iff_ne.mpr n5
 have e6 : (a0 == 6) = false := beq_eq_false_iff_ne.mpr n6
 have e14 : (a0 == 14) = false := beq_eq_false_iff_ne.mpr n14
 have e16 : (a0 == 16) = false := beq_eq_false_iff_ne.mpr n16
 have e18 : (a0 == 18) = false := beq_eq_false_iff_ne.mpr n18
 have e20 : (a0 == 20) = false := beq_eq_false_iff_ne.mpr n20
 have e17 : (a0 == 17) = false := beq_eq_false_iff_ne.mpr n17
 have e21 : (a0 == 21) = false := beq_eq_false_iff_ne.mpr n21
 have e28 : (a0 == 28) = false := beq_eq_false_iff_ne.mpr n28
 clear n0 n1 n30 n2 n3 n4 n5 n6 n14 n16 n18 n20 n17 n21 n28
 go_enter Try.func26, Try.ntmps26
 go_wp2
 go_ret2
 exact ⟨rfl, rfl⟩
theorem dfieldsC (a0 : Int) (g : Nat) (os : List Nat) (w : World) (hk : w.cell? ⟨g, 1, none⟩ = some (.int .i64 a0)) (hs : fOffs a0 = some os) : Calls Try.prog 26 #[.pointer (some ⟨g, 1, none⟩)] w (FPost g (os.map (· + 1)) w) := by
 unfold fOffs at hs
 split at hs
 ·rename_i h
  obtain rfl := Option.some.inj hs
  rcases h with rfl | rfl | rfl
  ·exact dfields_0 g w hk
  ·exact dfields_1 g w hk
  ·exact dfields_30 g w hk
 split at hs
 ·rename_i h
  obtain rfl := Option.some.inj hs
  rcases h with rfl
  exact dfields_2 g w hk
 split at hs
 ·rename_i h
  obtain rfl := Option.some.inj hs
  rcases h with rfl
  exact dfields_3 g w hk
 split at hs
 ·rename_i h
  obtain rfl := Option.some.inj hs
  rcases h with rfl
  exact dfields_4 g w hk
 split at hs
 ·rename_i h
  obtain rfl := Option.some.inj hs
  rcases h with rfl
  exact dfields_5 g w hk
 split at hs
 ·rename_i h
  obtain rfl := Option.some.inj hs
  rcases h with rfl
  exact dfields_6 g w hk
 split at hs
 ·rename_i h
  obtain rfl := Option.some.inj hs
  rcases h with rfl
  exact dfields_14 g w hk
 split at hs
 ·rename_i h
  obtain rfl := Option.some.inj hs
  rcases h with rfl | rfl | rfl
  ·exact dfields_16 g w hk
  ·exact dfields_18 g w hk
  ·exact dfields_20 g w hk
 split at hs
 ·rename_i h
  obtain rfl := Option.some.inj hs
  rcases h with rfl | rfl
  ·exact dfields_17 g w hk
  ·exact dfields_21 g w hk
 split at hs
 ·rename_i h
  obtain rfl := Option.some.inj hs
  rcases h with rfl
  exact dfields_28 g w hk
 cases hs
def SpP (wE w0 : World) (sb rb : Nat) (k0 k1 k2 k3 k4 k5 k6 k7 k8 : Value) : Option (List S47 × List Int) → Ending → World → Prop
 | none, e, _ => Gave e
 | some (s, l), e, w' => e = .returned (.tuple #[]) ∧ ∃ sv, Blk w' rb 75 [.pointer (some ⟨sb, 0, none⟩), k0, k1, k2, k3, k4, k5, k6, k7, k8, sv] ∧ SR wE.heap.size w' sv s ∧ Src w0 w' sb l
theorem ptop {v : Int} (h : 0 ≤ v ∧ v < 4611686018427387904) : IntKind.u64.wrap (v + 1) = v + 1 := w64 ⟨by omega, by omega⟩
theorem spans_calls (w0 w : World) (sb rb : Nat) (k0 k1 k2 k3 k4 k5 k6 k7 k8 : Value) (l : List Int) (R : Option (List S47 × List Int)) (hR : rSp l = R) (B0 : Blk w rb 75 [.pointer (some ⟨sb, 0, none⟩), k0, k1, k2, k3, k4, k5, k6, k7, k8, .slice none 0 0]) (S0 : Src w0 w sb l) (H0 : Since w0 w) (hb : bytesOk l = true) (hrb : w0.heap.size ≤ rb) :
  Calls Try.prog 43 #[.pointer (some ⟨rb, 0, none⟩)] w fun e w' => Kept2 sb rb w w' ∧ SpP w w0 sb rb k0 k1 k2 k3 k4 k5 k6 k7 k8 R e w' := by
 have hu := Try.underlying75
 have hu2 := Try.underlying27
 have hu3 := Try.underlying47
 have hrs : rb ≠ sb := S0.ne B0 (by decide)
 have hsb := S0.ge
 have K0 := Kept2.refl sb rb w
 have hwb := H0.le
 have c0 := B0.at 0 rfl
 unfold rSp at hR
 cases hN : uNum l with
 | none =>
  obtain rfl : R = none := by rw [← hR, hN]; rfl
  go_enter Try.func43, Try.ntmps43
  go_wp2_with (first | ((go_at_call 41); (with_reducible refine (number_calls w0 _ sb l S0 H0 hb).mono ?_); rintro e w1 ⟨hT, hP⟩; rw [hN] at hP; have hP : Gave e := hP; unfold Gave at hP; subst hP))
  exact ⟨rfl, K0.one hT, rfl⟩
 | some r =>
  obtain ⟨n, l1⟩ := r
  obtain ⟨hn, hb1, -, -, -, -, -⟩ := uNum_some hb hN
  rw [hN, Option.bind_some] at hR
  by_cases hg : 1 ≤ n ∧ n ≤ 32
  rotate_left
  ·obtain rfl : R = none := by rw [← hR, if_neg hg]
   clear hR
   by_cases h1 : 1 ≤ n
   ·have h2 : decide (n ≤ 32) = false := decide_eq_false fun h => hg ⟨h1, h⟩
    replace h1 := decide_eq_true h1
    clear hg
    go_enter Try.func43, Try.ntmps43
    go_wp2_with (first | ((go_at_call 41); (with_reducible refine (number_calls w0 _ sb l S0 H0 hb).mono ?_); rintro e w1 ⟨hT, hP⟩; rw [hN] at hP; obtain ⟨rfl, S1⟩ := hP; have B1 := B0.turned hT hrs; have c0 := B1.at 0 rfl; have c10 := B1.at 10 rfl; have f10 := B1.frozen 10; have H1 := H0.kept ((Kept2.refl sb rb _).one hT) hsb hrb; have K1 := K0.one hT; clear hT) | ((go_at_call 42); with_reducible refine (needs_f _).mono ?_; rintro e w' ⟨rfl, rfl⟩))
    exact ⟨rfl, K1, rfl⟩
   ·replace h1 := decide_eq_false h1
    clear hg
    go_enter Try.func43, Try.ntmps43
    go_wp2_with (first | ((go_at_call 41); (with_reducible refine (number_calls w0 _ sb l S0 H0 hb).mono ?_); rintro e w1 ⟨hT, hP⟩; rw [hN] at hP; obtain ⟨rfl, S1⟩ := hP; have B1 := B0.turned hT hrs; have c0 := B1.at 0 rfl; have c10 := B1.at 10 rfl; have f10 := B1.frozen 10; have H1 := H0.kept ((Kept2.refl sb rb _).one hT) hsb hrb; have K1 := K0.one hT; clear hT) | ((go_at_call 42); with_reducible refine (needs_f _).mono ?_; rintro e w' ⟨rfl, rfl⟩))
    exact ⟨rfl, K1, rfl⟩
  ·rw [if_pos hg] at hR
   obtain ⟨hg1, hg2⟩ := hg
   have d1 := decide_eq_true hg1
   have d2 := decide_eq_true hg2
   cases hN1 : uNum l1 with
   | none =>
    obtain rfl : R = none := by rw [← hR, hN1]; rfl
    clear hR
    go_enter Try.func43, Try.ntmps43
    go_wp2_with (first | ((go_at_call 41); (with_reducible refine (number_calls w0 _ sb l1 S1 H1 hb1).mono ?_); rintro e w2 ⟨hT, hP⟩; rw [hN1] at hP; have hP : Gave e := hP; unfold Gave at hP; subst hP) | ((go_at_call 41); (with_reducible refine (number_calls w0 _ sb l S0 H0 hb).mono ?_); rintro e w1 ⟨hT, hP⟩; rw [hN] at hP; obtain ⟨rfl, S1⟩ := hP; have B1 := B0.turned hT hrs; have c0 := B1.at 0 rfl; have c10 := B1.at 10 rfl; have f10 := B1.frozen 10; have H1 := H0.kept ((Kept2.refl sb rb _).one hT) hsb hrb; have K1 := K0.one hT; clear hT) | ((go_at_call 42); with_reducible refine (needs_t _).mono ?_; rintro e w' ⟨rfl, rfl⟩))
    exact ⟨rfl, K1.one hT, rfl⟩
   | some r =>
    obtain ⟨tp, l2⟩ := r
    obtain ⟨ht, hb2, -, -, -, -, -⟩ := uNum_some hb1 hN1
    rw [hN1, Option.bind_some] at hR
    have hR := Aside0.mk hR
    have e1 := ptop ht
    go_enter Try.func43, Try.ntmps43
    go_wp2_with (first | ((go_at_call 41); (with_reducible refine (number_calls w0 _ sb l1 S1 H1 hb1).mono ?_); rintro e w2 ⟨hT, hP⟩; rw [hN1] at hP; obtain ⟨rfl, S2⟩ := hP; have B2 := B1.turned hT hrs; have c0 := B2.at 0 rfl; have c10 := B2.at 10 rfl; have f10 := B2.frozen 10; have H2 := H1.kept ((Kept2.refl sb rb _).one hT) hsb hrb; have K2 := K1.one hT; clear hT) | ((go_at_call 41); (with_reducible refine (number_calls w0 _ sb l S0 H0 hb).mono ?_); rintro e w1 ⟨hT, hP⟩; rw [hN] at hP; obtain ⟨rfl, S1⟩ := hP; have B1 := B0.turned hT hrs; have c0 := B1.at 0 rfl; have c10 := B1.at 10 rfl; have f10 := B1.frozen 10; have H1 := H0.kept ((Kept2.refl sb rb _).one hT) hsb hrb; have K1 := K0.one hT; clear hT) | ((go_at_call 42); with_reducible refine (needs_t _).mono ?_; rintro e w' ⟨rfl, rfl⟩))
    go_loopw [26, 3] (fun i t wr => ∃ (q : Nat) (tq : Int) (s : List S47) (lq : List Int) (sv : Value), i = .int .u64 q ∧ t = .int .u64 tq ∧ (q : Int) ≤ n ∧ rRounds (n.toNat - q) tq s lq = R ∧ (0 ≤ tq ∧ tq ≤ 4611686018427387904) ∧ bytesOk lq = true ∧ s.length ≤ q ∧ (∀ x ∈ s, 0 ≤ x.f0 ∧ x.f0 ≤ 4611686018427387904) ∧ (s = [] → sv = .slice none 0 0) ∧ Blk wr rb 75 [.pointer (some ⟨sb, 0, none⟩), k0, k1, k2, k3, k4, k5, k6, k7, k8, sv] ∧ SR w.heap.size wr sv s ∧ Src w0 wr sb lq ∧ Since w0 wr ∧ Kept2 sb rb w wr) (fun i _ _ => n.toNat - (intOf i).toNat)
    case atStart => exact ⟨0, tp + 1, [], l2, _, rfl, rfl, by omega, hR.out, by omega, hb2, Nat.le_refl _, (fun x hx => absurd hx (by simp)), (fun _ => rfl), B2, SR.nil _ _, S2, H2, K2⟩
    case round =>
     clear c0 c10 f10 B2 S2 H2 K2 B1 S1 H1 K1 hR
     obtain ⟨q, tq, s, lq, sv, rfl, rfl, hq, hRR, htq, hbq, hsl, hmem, hnil, BQ, RQ, SQ, HQ, KQ⟩ := hrel
     have c0 := BQ.at 0 rfl
     have c10 := BQ.at 10 rfl
     by_cases hlt : (q : Int) < n
     ·have dlt := decide_eq_true hlt
      obtain ⟨k, hk⟩ : ∃ k, n.toNat - q = k + 1 := ⟨n.toNat - q - 1, by omega⟩
      rw [hk] at hRR
      have hk1 : n.toNat - (q + 1) = k := by omega
      have eq1 : IntKind.u64.wrap ((q : Int) + 1) = ((q + 1 : Nat) : Int) := by rw [w64 ⟨by omega, by omega⟩]; rfl
      have hq1 : ((q + 1 : Nat) : Int) ≤ n := by omega
      clear hlt hk
      cases s with
      | nil =>
       obtain rfl := hnil rfl
       have hRR : ((uNum lq).bind fun r => if r.1 + 1 ≤ tq then rRounds k tq [⟨tq - (r.1 + 1), tq⟩] r.2 else none) = R := hRR
       cases hN2 : uNum lq with
       | none =>
        obtain rfl : R = none := by rw [← hRR, hN2]; rfl
        clear hRR
        go_wp2_with (first | ((go_at_call 41); (with_reducible refine (number_calls w0 _ sb lq SQ HQ hbq).mono ?_); rintro e w3 ⟨hT, hP⟩; rw [hN2] at hP; have hP : Gave e := hP; unfold Gave at hP; subst hP))
        exact ⟨rfl, KQ.one hT, rfl⟩
       | some r =>
        obtain ⟨z, l3⟩ := r
        obtain ⟨hz, hb3, -, -, -, -, -⟩ := uNum_some hbq hN2
        have e2 := ptop hz
        rw [hN2, Option.bind_some] at hRR
        by_cases hg2 : z + 1 ≤ tq
        ·have dz := decide_eq_true hg2
         rw [if_pos hg2] at hRR
         have hRR := Aside0.mk hRR
         have e3 : IntKind.u64.wrap (tq - (z + 1)) = tq - (z + 1) := w64 ⟨by omega, by omega⟩
         have hl1 : ([] : List S47).length ≤ 1000 := by simp
         have hmem2 : ∀ x ∈ [(⟨tq - (z + 1), tq⟩ : S47)], 0 ≤ x.f0 ∧ x.f0 ≤ 4611686018427387904 := by intro x hx; simp at hx; subst hx; show 0 ≤ tq - (z + 1) ∧ tq - (z + 1) ≤ _; omega
         go_wp2_with (first | ((go_at_call 41); (with_reducible refine (number_calls w0 _ sb lq SQ HQ hbq).mono ?_); rintro e w3 ⟨hT, hP⟩; rw [hN2] at hP; obtain ⟨rfl, S3⟩ := hP; have B3 := BQ.turned hT hrs; have c0 := B3.at 0 rfl; have c10 := B3.at 10 rfl; have f10 := B3.frozen 10; have H3 := HQ.kept ((Kept2.refl sb rb _).one hT) hsb hrb; have K3 := KQ.one hT; have R3 := RQ.turnedS SQ hT; clear hT) | ((go_at_call 42); with_reducible refine (needs_t _).mono ?_; rintro e w' ⟨rfl, rfl⟩) | ((with_reducible refine gate_dst (N := 77) rfl ?_); refine seg_lit rfl (N := 77) rfl [.int .u64 (tq - (z + 1)), .int .u64 tq] 47 1 ?hr ?_; (case hr => first | (go_simp; done) | (go_simp; rfl)); intro vb hvb w4 BV0 hlb; have BV : Blk w4 vb 47 (flat [⟨tq - (z + 1), tq⟩]) := BV0; clear BV0; have hvn : ∀ k, Value.ownBlock (.slice none 0 0) = some k → vb ≠ k := (fun k hk => by have := Kd.R_lt R3.to k hk; omega); clear hvb; have B4 := B3.below hlb; have S4 := S3.below hlb; have R4 := R3.below hlb; have K4 := K3.below hlb; have H4 := H3.below hlb; clear hlb) | ((go_at_call 52); (with_reducible refine (insertC w.heap.size _ (.slice none 0 0) [] vb ⟨tq - (z + 1), tq⟩ R4 (fun _ => rfl) BV hvn hl1 K4.size).mono ?_); rintro e w5 ⟨v', rfl, R5, hgi⟩; obtain ⟨AV, cV, rfl⟩ := Kd.R_slice R5.to; have B5 := B4.row hgi (R4.ne B4 (by decide)); have c10 := B5.at 10 rfl; have f10 := B5.frozen 10; have S5 := S4.row hgi (S4.away R4); have K5 := K4.row hgi R4.ge; have H5 := H4.row hgi (fun k hk => Nat.le_trans hwb (R4.ge k hk)); clear hgi))
         go_roundw
         case rel => exact ⟨q + 1, tq, ⟨tq - (z + 1), tq⟩ :: [], l3, _, by go_num, rfl, hq1, by rw [hk1]; exact hRR.out, by omega, hb3, by first | (simp; done) | (simpa using hsl), hmem2, (fun h => absurd h (by simp)), B5.set 10 _ rfl, R5.setFar B5 (by decide), S5.setFar hrs.symm, H5.set hrb, K5.set⟩
         case measure => simp [intOf]; omega
        ·have dz := decide_eq_false hg2
         obtain rfl : R = none := by rw [← hRR, if_neg hg2]
         clear hRR
         go_wp2_with (first | ((go_at_call 41); (with_reducible refine (number_calls w0 _ sb lq SQ HQ hbq).mono ?_); rintro e w3 ⟨hT, hP⟩; rw [hN2] at hP; obtain ⟨rfl, S3⟩ := hP; have B3 := BQ.turned hT hrs; have c0 := B3.at 0 rfl; have c10 := B3.at 10 rfl; have f10 := B3.frozen 10; have H3 := HQ.kept ((Kept2.refl sb rb _).one hT) hsb hrb; have K3 := KQ.one hT; have R3 := RQ.turnedS SQ hT; clear hT) | ((go_at_call 42); with_reducible refine (needs_f _).mono ?_; rintro e w' ⟨rfl, rfl⟩))
         exact ⟨rfl, K3, rfl⟩
      | cons x0 s' =>
       obtain ⟨f0, f1⟩ := x0
       have hx : 0 ≤ f0 ∧ f0 ≤ 4611686018427387904 := hmem _ (List.mem_cons_self ..)
       have hRR : ((uNum lq).bind fun r => if r.1 + 1 < f0 then ((uNum r.2).bind fun r2 => if r2.1 + 1 ≤ f0 - (r.1 + 1) then rRounds k (f0 - (r.1 + 1)) (⟨f0 - (r.1 + 1) - (r2.1 + 1), f0 - (r.1 + 1)⟩ :: ⟨f0, f1⟩ :: s') r2.2 else none) else none) = R := hRR
       have hm0 : 0 < (⟨f0, f1⟩ :: s' : List S47).length := Nat.succ_pos _
       obtain ⟨g, c, rest, rfl, hge, BS, hlc, hcm, hsz⟩ := RQ.open hm0
       clear hnil
       have cS : wr.cell? ⟨g, 0, none⟩ = some (.int .u64 f0) := (BS.cell 0).trans rfl
       obtain ⟨m, hm⟩ : ∃ m, m = (⟨f0, f1⟩ :: s' : List S47).length := ⟨_, rfl⟩
       rw [← hm] at hm0 hlc c10 BQ RQ
       clear hm
       have dm : decide ((0 : Int) < (m : Int)) = true := decide_eq_true (by omega)
       cases hN2 : uNum lq with
       | none =>
        obtain rfl : R = none := by rw [← hRR, hN2]; rfl
        clear hRR
        go_wp2_with (first | ((go_at_call 41); (with_reducible refine (number_calls w0 _ sb lq SQ HQ hbq).mono ?_); rintro e w3 ⟨hT, hP⟩; rw [hN2] at hP; have hP : Gave e := hP; unfold Gave at hP; subst hP))
        exact ⟨rfl, KQ.one hT, rfl⟩
       | some r =>
        obtain ⟨p, l3⟩ := r
        obtain ⟨hp, hb3, -, -, -, -, -⟩ := uNum_some hbq hN2
        have e2 := ptop hp
        rw [hN2, Option.bind_some] at hRR
        by_cases hg2 : p + 1 < f0
        ·have dp := decide_eq_true hg2
         rw [if_pos hg2] at hRR
         have e4 : IntKind.u64.wrap (f0 - (p + 1)) = f0 - (p + 1) := w64 ⟨by omega, by omega⟩
         cases hN3 : uNum l3 with
         | none =>
          obtain rfl : R = none := by rw [← hRR, hN3]; rfl
          clear hRR
          go_wp2_with (first | ((go_at_call 41); (with_reducible refine (number_calls w0 _ sb l3 S3 H3 hb3).mono ?_); rintro e w4 ⟨hT, hP⟩; rw [hN3] at hP; have hP : Gave e := hP; unfold Gave at hP; subst hP) | ((go_at_call 41); (with_reducible refine (number_calls w0 _ sb lq SQ HQ hbq).mono ?_); rintro e w3 ⟨hT, hP⟩; rw [hN2] at hP; obtain ⟨rfl, S3⟩ := hP; have B3 := BQ.turned hT hrs; have c0 := B3.at 0 rfl; have c10 := B3.at 10 rfl; have f10 := B3.frozen 10; have H3 := HQ.kept ((Kept2.refl sb rb _).one hT) hsb hrb; have K3 := KQ.one hT; have R3 := RQ.turnedS SQ hT; have BS3 := BS.turned hT (SQ.ne BS (by decide)); have cS : w3.cell? ⟨g, 0, none⟩ = some (.int .u64 f0) := (BS3.cell 0).trans rfl; clear hT) | ((go_at_call 42); with_reducible refine (needs_t _).mono ?_; rintro e w' ⟨rfl, rfl⟩))
          exact ⟨rfl, K3.one hT, rfl⟩
         | some r =>
          obtain ⟨z, l4⟩ := r
          obtain ⟨hz, hb4, -, -, -, -, -⟩ := uNum_some hb3 hN3
          have e5 := ptop hz
          rw [hN3, Option.bind_some] at hRR
          by_cases hg3 : z + 1 ≤ f0 - (p + 1)
          ·have dz := decide_eq_true hg3
           rw [if_pos hg3] at hRR
           have hRR := Aside0.mk hRR
           have e3 : IntKind.u64.wrap (f0 - (p + 1) - (z + 1)) = f0 - (p + 1) - (z + 1) := w64 ⟨by omega, by omega⟩
           have hl1 : (⟨f0, f1⟩ :: s' : List S47).length ≤ 1000 := by omega
           have hmem2 : ∀ x ∈ (⟨f0 - (p + 1) - (z + 1), f0 - (p + 1)⟩ :: ⟨f0, f1⟩ :: s' : List S47), 0 ≤ x.f0 ∧ x.f0 ≤ 4611686018427387904 := by
            intro x hx
            rcases List.mem_cons.1 hx with rfl | hx
            ·show 0 ≤ f0 - (p + 1) - (z + 1) ∧ f0 - (p + 1) - (z + 1) ≤ _; omega
            ·exact hmem x hx
           go_wp2_with (first | ((go_at_call 41); (with_reducible refine (number_calls w0 _ sb l3 S3 H3 hb3).mono ?_); rintro e w4 ⟨hT, hP⟩; rw [hN3] at hP; obtain ⟨rfl, S4⟩ := hP; have B4 := B3.turned hT hrs; have c0 := B4.at 0 rfl; have c10 := B4.at 10 rfl; have f10 := B4.frozen 10; have H4 := H3.kept ((Kept2.refl sb rb _).one hT) hsb hrb; have K4 := K3.one hT; have R4 := R3.turnedS S3 hT; have BS4 := BS3.turned hT (S3.ne BS3 (by decide)); have cS : w4.cell? ⟨g, 0, none⟩ = some (.int .u64 f0) := (BS4.cell 0).trans rfl; clear hT) | ((go_at_call 41); (with_reducible refine (number_calls w0 _ sb lq SQ HQ hbq).mono ?_); rintro e w3 ⟨hT, hP⟩; rw [hN2] at hP; obtain ⟨rfl, S3⟩ := hP; have B3 := BQ.turned hT hrs; have c0 := B3.at 0 rfl; have c10 := B3.at 10 rfl; have f10 := B3.frozen 10; have H3 := HQ.kept ((Kept2.refl sb rb _).one hT) hsb hrb; have K3 := KQ.one hT; have R3 := RQ.turnedS SQ hT; have BS3 := BS.turned hT (SQ.ne BS (by decide)); have cS : w3.cell? ⟨g, 0, none⟩ = some (.int .u64 f0) := (BS3.cell 0).trans rfl; clear hT) | ((go_at_call 42); with_reducible refine (needs_t _).mono ?_; rintro e w' ⟨rfl, rfl⟩) | ((with_reducible refine gate_dst (N := 77) rfl ?_); refine seg_lit rfl (N := 77) rfl [.int .u64 ((f0 - (p + 1)) - (z + 1)), .int .u64 (f0 - (p + 1))] 47 1 ?hr ?_; (case hr => first | (go_simp; done) | (go_simp; rfl)); intro vb hvb w5 BV0 hlb; have BV : Blk w5 vb 47 (flat [⟨(f0 - (p + 1)) - (z + 1), (f0 - (p + 1))⟩]) := BV0; clear BV0; have hvn : ∀ k, Value.ownBlock (.slice (some ⟨g, 0, none⟩) m c) = some k → vb ≠ k := (fun k hk => by have := Kd.R_lt R4.to k hk; omega); clear hvb; have B5 := B4.below hlb; have S5 := S4.below hlb; have R5 := R4.below hlb; have K5 := K4.below hlb; have H5 := H4.below hlb; clear hlb) | ((go_at_call 52); (with_reducible refine (insertC w.heap.size _ (.slice (some ⟨g, 0, none⟩) m c) (⟨f0, f1⟩ :: s') vb ⟨(f0 - (p + 1)) - (z + 1), (f0 - (p + 1))⟩ R5 (fun h => by cases h) BV hvn hl1 K5.size).mono ?_); rintro e w6 ⟨v', rfl, R6, hgi⟩; obtain ⟨AV, cV, rfl⟩ := Kd.R_slice R6.to; have B6 := B5.row hgi (R5.ne B5 (by decide)); have c10 := B6.at 10 rfl; have f10 := B6.frozen 10; have S6 := S5.row hgi (S5.away R5); have K6 := K5.row hgi R5.ge; have H6 := H5.row hgi (fun k hk => Nat.le_trans hwb (R5.ge k hk)); clear hgi))
           go_roundw
           case rel => exact ⟨q + 1, (f0 - (p + 1)), ⟨(f0 - (p + 1)) - (z + 1), (f0 - (p + 1))⟩ :: (⟨f0, f1⟩ :: s'), l4, _, by go_num, rfl, hq1, by rw [hk1]; exact hRR.out, by omega, hb4, by first | (simp; done) | (simpa using hsl), hmem2, (fun h => absurd h (by simp)), B6.set 10 _ rfl, R6.setFar B6 (by decide), S6.setFar hrs.symm, H6.set hrb, K6.set⟩
           case measure => simp [intOf]; omega
          ·have dz := decide_eq_false hg3
           obtain rfl : R = none := by rw [← hRR, if_neg hg3]
           clear hRR
           go_wp2_with (first | ((go_at_call 41); (with_reducible refine (number_calls w0 _ sb l3 S3 H3 hb3).mono ?_); rintro e w4 ⟨hT, hP⟩; rw [hN3] at hP; obtain ⟨rfl, S4⟩ := hP; have B4 := B3.turned hT hrs; have c0 := B4.at 0 rfl; have c10 := B4.at 10 rfl; have f10 := B4.frozen 10; have H4 := H3.kept ((Kept2.refl sb rb _).one hT) hsb hrb; have K4 := K3.one hT; have R4 := R3.turnedS S3 hT; have BS4 := BS3.turned hT (S3.ne BS3 (by decide)); have cS : w4.cell? ⟨g, 0, none⟩ = some (.int .u64 f0) := (BS4.cell 0).trans rfl; clear hT) | ((go_at_call 41); (with_reducible refine (number_calls w0 _ sb lq SQ HQ hbq).mono ?_); rintro e w3 ⟨hT, hP⟩; rw [hN2] at hP; obtain ⟨rfl, S3⟩ := hP; have B3 := BQ.turned hT hrs; have c0 := B3.at 0 rfl; have c10 := B3.at 10 rfl; have f10 := B3.frozen 10; have H3 := HQ.kept ((Kept2.refl sb rb _).one hT) hsb hrb; have K3 := KQ.one hT; have R3 := RQ.turnedS SQ hT; have BS3 := BS.turned hT (SQ.ne BS (by decide)); have cS : w3.cell? ⟨g, 0, none⟩ = some (.int .u64 f0) := (BS3.cell 0).trans rfl; clear hT) | ((go_at_call 42); first | ((with_reducible refine (needs_t _).mono ?_); rintro e w' ⟨rfl, rfl⟩) | ((with_reducible refine (needs_f _).mono ?_); rintro e w' ⟨rfl, rfl⟩)))
           exact ⟨rfl, K4, rfl⟩
        ·have dp := decide_eq_false hg2
         obtain rfl : R = none := by rw [← hRR, if_neg hg2]
         clear hRR
         go_wp2_with (first | ((go_at_call 41); (with_reducible refine (number_calls w0 _ sb lq SQ HQ hbq).mono ?_); rintro e w3 ⟨hT, hP⟩; rw [hN2] at hP; obtain ⟨rfl, S3⟩ := hP; have B3 := BQ.turned hT hrs; have c0 := B3.at 0 rfl; have c10 := B3.at 10 rfl; have f10 := B3.frozen 10; have H3 := HQ.kept ((Kept2.refl sb rb _).one hT) hsb hrb; have K3 := KQ.one hT; have R3 := RQ.turnedS SQ hT; have BS3 := BS.turned hT (SQ.ne BS (by decide)); have cS : w3.cell? ⟨g, 0, none⟩ = some (.int .u64 f0) := (BS3.cell 0).trans rfl; clear hT) | ((go_at_call 42); with_reducible refine (needs_f _).mono ?_; rintro e w' ⟨rfl, rfl⟩))
         exact ⟨rfl, K3, rfl⟩
     ·obtain rfl : n = (q : Int) := by omega
      have dlt := decide_eq_false hlt
      rw [show (q : Int).toNat - q = 0 by omega] at hRR
      subst hRR
      go_wp2
      go_end0
      exact ⟨KQ, rfl, sv, BQ, RQ, SQ⟩
end Go.Proofs.Ytphakdfholkbdaa
end
