import Derived.Outline
import Derived.Handy
import Derived.Recover
import Derived.WalkSmall
import Derived.Laws.Externs
import Derived.Laws.CopyOwn
import Derived.Lib.AppendZerosOnto
import Derived.Lib.Overlaps
import Derived.Deep.RegionLaw
import Derived.Test.YtphakdfholkbdaaPFrax0
import Derived.Test.YtphakdfholkbdaaNum
import Derived.Test.YtphakdfholkbdaaSeg
import Derived.Test.YtphakdfholkbdaaFraB
import Derived.Test.YtphakdfholkbdaaPFrax2
namespace Go.Proofs.Ytphakdfholkbdaa
open Go.Proofs.Ytphakdfholkbdaa.PFra Go.RowKit Go.Proofs.YtphakdfholkbdaaW.PrintWords Go.Proofs.YtphakdfholkbdaaW.PrintLast Go.Proofs.YtphakdfholkbdaaW.PrintMore
set_option maxRecDepth 100000
set_option maxHeartbeats 4000000
set_option linter.unusedVariables false
set_option linter.unusedSimpArgs false
theorem needs_t (w : World) : Calls Try.prog 42 #[.bool true] w fun e w' => e = .returned (.tuple #[]) ∧ w = w' := by
  go_enter Try.func42, Try.ntmps42
  go_wp2
  go_end0
  exact ⟨rfl, rfl⟩
def Gave (e : Ending) : Prop := e = .panicked [{ v := .iface 29 (.int .i64 50), recovered := false }]
theorem needs_f (w : World) : Calls Try.prog 42 #[.bool false] w fun e w' => e = .panicked [{ v := .iface 29 (.int .i64 50), recovered := false }] ∧ w = w' := by
  go_enter Try.func42, Try.ntmps42
  go_wp2
  exact ⟨rfl, rfl, rfl⟩
theorem caught_nil (w : World) : Calls Try.prog 33 #[.nilIface] w fun e w' => e = .returned (.int .i64 0) ∧ w = w' := by
  go_enter Try.func33, Try.ntmps33
  go_wp2
  go_ret
  exact ⟨rfl, rfl⟩
theorem caught_it (w : World) : Calls Try.prog 33 #[.iface 29 (.int .i64 50)] w fun e w' => e = .returned (.int .i64 50) ∧ w = w' := by
  have ht : ∀ w, (Instr.typeAssert (.iface 29 (.int .i64 50)) 20 29 true).run Try.prog w = .ok (.tuple #[.int .i64 50, .bool true]) w := fun _ => by kernel_rfl
  go_enter Try.func33, Try.ntmps33
  go_wp2
  go_ret
  exact ⟨rfl, rfl⟩
/-- A source's block: the bytes that are still to be read lie in the world from which all began. -/
structure Src (w0 w : World) (sb : Nat) (l : List Int) : Prop where mk ::
  ge : w0.heap.size ≤ sb
  out : ∃ A c, Blk w sb 73 [.slice A l.length c] ∧ Kd.C (Kd.int .u8) w0 A l.length l ∧ l.length ≤ c
def uNum (l : List Int) : Option (Int × List Int) := if (uGet l).2.2 = 0 then some ((uGet l).1, l.drop (uGetN l)) else none
theorem uGet_cases (l : List Int) : (uGet l = (0, 0, 30)) ∨ (uGet l = (uGetV l, (uGetN l : Int), 0) ∧ uGetN l ≤ l.length) := by
  unfold uGet
  split
  · exact .inl rfl
  · split
    · exact .inl rfl
    · exact .inr ⟨rfl, by omega⟩
def NumP (w0 : World) (sb : Nat) : Option (Int × List Int) → Ending → World → Prop
  | none, e, _ => Gave e
  | some (v, l'), e, w' => e = .returned (.int .u64 v) ∧ Src w0 w' sb l'
theorem number_calls (w0 w : World) (sb : Nat) (l : List Int) (hS : Src w0 w sb l) (hw : Since w0 w) (hb : bytesOk l = true) :
    Calls Try.prog 41 #[.pointer (some ⟨sb, 0, none⟩)] w fun e w' => Turned sb w w' ∧ NumP w0 sb (uNum l) e w' := by
  obtain ⟨hge, A, c, hB, hr, hc⟩ := hS
  have c0 : w.cell? ⟨sb, 0, none⟩ = some (.slice A l.length c) := (blk_cell hB.out 0).trans rfl
  have f0 := blk_frozen hB.out 0
  have hg : varint_Get.f l = some ((uGet l).1, (uGet l).2.1, (uGet l).2.2) := by unfold varint_Get.f; rw [if_pos hb]
  have hR := Kd.C_below hr hw.out
  have hu := Try.underlying73
  rcases uGet_cases l with h | ⟨h, hn⟩
  · have hN : uNum l = none := by unfold uNum; rw [h]; rfl
    rw [h] at hg
    go_enter Try.func41, Try.ntmps41
    go_wp2_with (first | ((go_at_call 51); with_reducible refine (varint_Get.calls A c l _ _ _ _ (by first | exact hR | exact Kd.C_drewN hR _) hc hg).mono ?_; rintro e w' ⟨rfl, ⟨nd, rfl⟩⟩) | ((go_at_call 42); with_reducible refine (needs_f _).mono ?_; rintro e w' ⟨rfl, rfl⟩))
    refine ⟨rfl, (Turned.refl sb w).drewN _, ?_⟩
    rw [hN]; rfl
  · have hN : uNum l = some (uGetV l, l.drop (uGetN l)) := by unfold uNum; rw [h]; rfl
    rw [h] at hg
    obtain ⟨i0, hi0, _, hsz0, _⟩ := info_parts info5
    obtain ⟨A', hcut, hA, hc'⟩ := print_drop_of (P := Try.prog) (Value.int .u8) 0 24 5 .i64 Try.underlying24 hi0 hsz0 A c l (uGetN l : Int) (by omega) (by omega) hc
    rw [Int.toNat_natCast] at hcut hA hc'
    have hR' := (Kd.C_of_reads (h1 := fun _ => rfl) (hA w0 (Kd.reads_of_C hr)) : Kd.C (Kd.int .u8) w0 A' _ _)
    generalize uGetN l = m at *
    generalize uGetV l = v at *
    go_enter Try.func41, Try.ntmps41
    go_wp2_with (first | ((go_at_call 51); with_reducible refine (varint_Get.calls A c l _ _ _ _ (by first | exact hR | exact Kd.C_drewN hR _) hc hg).mono ?_; rintro e w' ⟨rfl, ⟨nd, rfl⟩⟩) | ((go_at_call 42); with_reducible refine (needs_t _).mono ?_; rintro e w' ⟨rfl, rfl⟩))
    go_ret
    refine ⟨((Turned.refl sb w).drewN _).set, ?_⟩
    rw [hN]
    exact ⟨rfl, hge, A', _, (hB.drewN _).set 0 _ (by rw [List.length_drop]; rfl), hR', hc'⟩
theorem clone_calls (A : Option Addr) (c : Nat) (l : List Int) (w : World) (hr : Kd.C (Kd.int .u8) w A l.length l) (hc : l.length ≤ c) (hl : l.length ≤ 140737488355328) :
    Calls Try.prog 53 #[.slice A l.length c] w fun e w' => ∃ v, e = .returned v ∧ OW w w' v l ∧ Below w.heap.size w w' := by
  have hn0 : ∀ (n c : Nat) (w : World), (binOp .eql 24 (.slice none n c) (.slice none 0 0)).run Try.prog w = .ok (.bool true) w := fun _ _ _ => by kernel_rfl
  have hn1 : ∀ (ad : Addr) (n c : Nat) (w : World), (binOp .eql 24 (.slice (some ad) n c) (.slice none 0 0)).run Try.prog w = .ok (.bool false) w := fun _ _ _ _ => by kernel_rfl
  cases A with
  | none =>
    have h0 : l = [] := by
      cases l with
      | nil => rfl
      | cons x t => obtain ⟨ad, e, _⟩ := Kd.at_int hr 0 (by omega) (by simp); cases e
    subst h0
    go_enter Try.func53, Try.ntmps53
    go_wp2
    go_ret
    exact ⟨_, rfl, ⟨Kd.R_nil _ _ _ _ _⟩, Below.refl _ _⟩
  | some ad =>
    go_enter Try.func53, Try.ntmps53
    go_wp2_with (first
      | ((with_reducible refine gate_dst (N := 5) rfl ?_); refine Kd.R_lit (Kd.int .u8) w.heap.size 5 ?hg (N := 5) ?hd (xs := ([] : List Int)) (inner := []) (ok := fun _ => True) (okp := fun _ => True) ?hr ?hp (fun _ hk => hk) trivial (Below.refl _ _) (Nat.le_refl _) (by simp) ?_; (case hd => rfl); (case hg => rfl); (case hr => first | (go_simp; done) | (go_simp; rfl)); (case hp => exact (Reps.none _ _)); intro v1 w1 ho hb hg_ hnew_)
      | ((with_reducible refine gate_builtin (b := .append) (xs := #[.tmp 5, .tmp 6]) rfl ?_); at_builtin; refine Kd.R_append_rows (Kd.int .u8) (w0 := w) w.heap.size rfl (.tmp 5) (.tmp 6) 24 5 (.int .u8 0) 1 rfl Try.underlying24 info5 rfl (by decide) (by omega) v1 [] l _ _ _ (fun _ => True) (fun _ => False) rfl rfl ?aO ?aR (fun _ _ h => h) (fun _ h => h.elim) (fun _ _ => trivial) ?aB ?aS ?aL ?_; (case aR => first | exact Kd.C_below hr hb | exact Kd.C_drewN (Kd.C_below hr hb) _); (case aB => first | exact hb | exact pw_below_drewN hb _); (case aO => (with_reducible repeat (first | apply Kd.R_alloc | apply Kd.R_drewN | apply Kd.R_drew)); exact ho); (case aS => first | exact below_size hb | exact below_size (pw_below_drewN hb _)); (case aL => simp; omega); intro v2 w2 ho2 hb2 hg2 hat2))
    go_ret
    exact ⟨_, rfl, ⟨by simpa using ho2⟩, hb2⟩
theorem take_no (w0 w : World) (sb : Nat) (l : List Int) (n : Int) (hS : Src w0 w sb l) (hn : (l.length : Int) < n) (hl : l.length ≤ 140737488355328) :
    Calls Try.prog 44 #[.pointer (some ⟨sb, 0, none⟩), .int .u64 n] w fun e w' => Turned sb w w' ∧ Gave e := by
  obtain ⟨hge, A, c, hB, hr, hc⟩ := hS
  have c0 : w.cell? ⟨sb, 0, none⟩ = some (.slice A l.length c) := (blk_cell hB.out 0).trans rfl
  have f0 := blk_frozen hB.out 0
  have hu := Try.underlying73
  have hw : IntKind.u64.wrap (l.length : Int) = l.length := w64 ⟨by omega, by omega⟩
  have hd : decide (n ≤ (l.length : Int)) = false := decide_eq_false (by omega)
  go_enter Try.func44, Try.ntmps44
  go_wp2_with ((go_at_call 42); with_reducible refine (needs_f _).mono ?_; rintro e w' ⟨rfl, rfl⟩)
  exact ⟨rfl, Turned.refl sb w, rfl⟩
theorem take_calls (w0 w : World) (sb : Nat) (l : List Int) (n : Int) (hS : Src w0 w sb l) (hw : Since w0 w) (h0 : 0 ≤ n) (hn : n ≤ l.length) (hl : l.length ≤ 140737488355328) :
    Calls Try.prog 44 #[.pointer (some ⟨sb, 0, none⟩), .int .u64 n] w fun e w' => Turned sb w w' ∧ ∃ v, e = .returned v ∧ OW w0 w' v (l.take n.toNat) ∧ Src w0 w' sb (l.drop n.toNat) := by
  obtain ⟨hge, A, c, hB, hr, hc⟩ := hS
  have c0 : w.cell? ⟨sb, 0, none⟩ = some (.slice A l.length c) := (blk_cell hB.out 0).trans rfl
  have f0 := blk_frozen hB.out 0
  have hu := Try.underlying73
  have hwr : IntKind.u64.wrap (l.length : Int) = l.length := w64 ⟨by omega, by omega⟩
  have hd : decide (n ≤ (l.length : Int)) = true := decide_eq_true hn
  have hR := Kd.C_below hr hw.out
  obtain ⟨i0, hi0, _, hsz0, _⟩ := info_parts info5
  obtain ⟨hcutT, hT, hcT⟩ := print_take_of (P := Try.prog) (Value.int .u8) 0 24 5 .u64 Try.underlying24 hi0 hsz0 A c l n h0 hn hc
  obtain ⟨A', hcutD, hD, hcD⟩ := print_drop_of (P := Try.prog) (Value.int .u8) 0 24 5 .u64 Try.underlying24 hi0 hsz0 A c l n h0 hn hc
  have hRT := (Kd.C_of_reads (h1 := fun _ => rfl) (hT w (Kd.reads_of_C hR)) : Kd.C (Kd.int .u8) w A _ _)
  have hRD := (Kd.C_of_reads (h1 := fun _ => rfl) (hD w0 (Kd.reads_of_C hr)) : Kd.C (Kd.int .u8) w0 A' _ _)
  have hlt : (l.take n.toNat).length ≤ 140737488355328 := by rw [List.length_take]; omega
  obtain ⟨lt, elt⟩ : ∃ lt, lt = l.take n.toNat := ⟨_, rfl⟩
  obtain ⟨ld, eld⟩ : ∃ ld, ld = l.drop n.toNat := ⟨_, rfl⟩
  rw [← elt] at hcutT hcT hRT hlt ⊢
  rw [← eld] at hcutD hcD hRD ⊢
  clear hT hD hi0 hsz0 elt eld
  replace hRT : Kd.C (Kd.int .u8) w A lt.length lt := hRT
  go_enter Try.func44, Try.ntmps44
  go_wp2_with (first
    | ((go_at_call 42); with_reducible refine (needs_t _).mono ?_; rintro e w' ⟨rfl, rfl⟩)
    | ((go_at_call 53); with_reducible refine (clone_calls A c lt _ (by first | exact hRT | exact Kd.C_drewN hRT _) hcT hlt).mono ?_; rintro e w1 ⟨v, rfl, ho, hb⟩; have hB1 := hB.below hb; have c1 : w1.cell? ⟨sb, 0, none⟩ = some (.slice A l.length c) := (blk_cell hB1.out 0).trans rfl; have f1 := blk_frozen hB1.out 0))
  go_ret
  exact ⟨((Turned.refl sb w).below hb).set, v, rfl, ((⟨Kd.R_lower ho.out hw.le⟩ : OW w0 _ v lt)).set hB1 (by decide) 0 _, hge, A', _, hB1.set 0 _ rfl, hRD, hcD⟩

end Go.Proofs.Ytphakdfholkbdaa
