/- Several texts of this claim in one: FrPr FrPt -/
import Derived.Outline
import Derived.Handy
import Derived.Recover
import Derived.WalkSmall
import Derived.Laws.Externs
import Derived.Laws.CopyOwn
import Derived.Lib.AppendZerosOnto
import Derived.Lib.Overlaps
import Derived.Deep.RegionLaw
import Derived.Test.YtphakdfholkbdaaKA
import Derived.Test.YtphakdfholkbdaaKW
import Derived.Test.YtphakdfholkbdaaKB
import Derived.Test.YtphakdfholkbdaaKP
section
namespace Go.Proofs.Ytphakdfholkbdaa
open Go.Proofs.Ytphakdfholkbdaa.PFra Go.RowKit Go.Proofs.YtphakdfholkbdaaW.PrintWords Go.Proofs.YtphakdfholkbdaaW.PrintLast Go.Proofs.YtphakdfholkbdaaW.PrintMore
set_option maxRecDepth 100000
set_option maxHeartbeats 4000000
set_option linter.unusedVariables false
set_option linter.unusedSimpArgs false
def FrP (w0 : World) (sb rb : Nat) : Option FrV → Ending → World → Prop
 | none, e, _ => Gave e
 | some (K, f, fin, d, s, l), e, w' => e = .returned (.tuple #[]) ∧ ∃ dv sv, Blk w' rb 75 (cellsR sb K f fin dv sv) ∧ OW w0 w' dv d ∧ SR w0.heap.size w' sv s ∧ Src w0 w' sb l
theorem PR.turnedS {w0 w w1 : World} {A : Option Addr} {g sb : Nat} {os : List Nat} {bs : List Int} (h : PR w A g os) (hS : Src w0 w sb bs) (hT : Turned sb w w1) : PR w1 A g os := fun hn => let ⟨b, e, B⟩ := h hn; ⟨b, e, B.turned hT (hS.ne B (by decide))⟩
theorem PR.setR {w : World} {A : Option Addr} {g k i : Nat} {os : List Nat} {l : List Value} {u : Value} (h : PR w A g os) (hk : Blk w k 75 l) : PR (w.setCell ⟨k, i, none⟩ u) A g os := fun hn => let ⟨b, e, B⟩ := h hn; ⟨b, e, B.setFar (blk_ne_of B hk (by decide))⟩
theorem PR.kept {w w1 : World} {A : Option Addr} {g sb rb : Nat} {os : List Nat} {bs : List Int} {w0 : World} {l : List Value} (h : PR w A g os) (hS : Src w0 w sb bs) (hR : Blk w rb 75 l) (hk : Kept2 sb rb w w1) : PR w1 A g os := fun hn => let ⟨b, e, B⟩ := h hn; ⟨b, e, ⟨(hk.block b B.lt (hS.ne B (by decide)) (blk_ne_of B hR (by decide))).trans B.out⟩⟩
theorem qA_ {α : Type} {l : List α} {i : Nat} {a : α} : l.toArray.setIfInBounds i a = (l.set i a).toArray := List.setIfInBounds_toArray ..
theorem q0_ {α : Type} {x a : α} {l : List α} : (x :: l).set 0 a = a :: l := List.set_cons_zero ..
theorem q1_ {α : Type} {n : Nat} {x a : α} {l : List α} : (x :: l).set (n + 1) a = x :: l.set n a := List.set_cons_succ ..
section
variable {P : Program} {ops : Array Oper} {Q : Exit → Act → World → Prop}
theorem goesP_ {oi : Oper} {N : Option Tmp} {a : Act} {w : World} {K : Act → World → Prop} {f : FuncId} {fn : Func} {ars : Array Operand} {ts : Array TypeId} (hf : P.funcs[f]? = some fn) (hname : (fn.name == "runtime.NumGoroutine") = false) (hb : fn.body.isSome = true) (args : Array Value)
  (hw : Region.wanted oi (yielded ops a.tmps) = true) (hN : oi.dst = N) (hop : oi.op = .call { callee := .value (.func f), args := ars, argTypes := ts }) (hargs : ars.map a.eval = args) (ch : List PanicEntry)
  (h : Calls P f args w fun e w' => e = .panicked ch ∧ Q (.panic ch) a w') : if Region.wanted oi (yielded ops a.tmps) = true then Oper.wp P oi a w K Q else K (a.put N undef) w := by
 have he := enters_ hf hname hb args w
 have hrun : (execOp a.eval oi).run P w = .ok (.enter f args) w := by
  unfold execOp
  simp [hop, resolve, Deferred.ofValue, invoke, Act.eval, hargs, he]
 rw [if_pos hw]
 unfold Oper.wp
 rw [hrun, Oper.upon_enter]
 refine h.mono fun e w'' hh => ?_
 obtain ⟨rfl, hq⟩ := hh
 exact hq
end
theorem fr_none (w0 w : World) (sb rb : Nat) (l : List Int) (B0 : Blk w rb 75 [.pointer (some ⟨sb, 0, none⟩), .int .i64 0, .int .u64 0, .int .u64 0, .int .u64 0, .int .u64 0, .int .u64 0, .int .u64 0, .bool false, .slice none 0 0, .slice none 0 0]) (S0 : Src w0 w sb l) (H0 : Since w0 w) (hb0 : bytesOk l = true) (hrb : w0.heap.size ≤ rb) (hl : l.length < 1000000) (R : Option FrV) (hR : R = none) (hN : uNum l = none) :
  Calls Try.prog 34 #[.pointer (some ⟨rb, 0, none⟩)] w fun e w' => Kept2 sb rb w w' ∧ FrP w0 sb rb R e w' := by
 have hu := Try.underlying75
 have hu2 := Try.underlying27
 have hrs : rb ≠ sb := S0.ne B0 (by decide)
 have hsb := S0.ge
 have K0 := Kept2.refl sb rb w
 have hwb := H0.le
 have c0 := B0.at 0 rfl
 subst hR
 go_enter Try.func34, Try.ntmps34
 go_wp2_with (first | ((go_at_call 41); (with_reducible refine (number_calls w0 _ sb l S0 H0 hb0).mono ?_); rintro e w1 ⟨hT, hP⟩; rw [hN] at hP; have hP : Gave e := hP; unfold Gave at hP; subst hP))
 exact ⟨rfl, K0.one hT, rfl⟩
theorem fr_big (w0 w : World) (sb rb : Nat) (l : List Int) (B0 : Blk w rb 75 [.pointer (some ⟨sb, 0, none⟩), .int .i64 0, .int .u64 0, .int .u64 0, .int .u64 0, .int .u64 0, .int .u64 0, .int .u64 0, .bool false, .slice none 0 0, .slice none 0 0]) (S0 : Src w0 w sb l) (H0 : Since w0 w) (hb0 : bytesOk l = true) (hrb : w0.heap.size ≤ rb) (hl : l.length < 1000000) (R : Option FrV) (hR : R = none) (n : Int) (l1 : List Int) (hN : uNum l = some (n, l1)) (hd : decide (n ≤ 30) = false) :
  Calls Try.prog 34 #[.pointer (some ⟨rb, 0, none⟩)] w fun e w' => Kept2 sb rb w w' ∧ FrP w0 sb rb R e w' := by
 have hu := Try.underlying75
 have hu2 := Try.underlying27
 have hrs : rb ≠ sb := S0.ne B0 (by decide)
 have hsb := S0.ge
 have K0 := Kept2.refl sb rb w
 have hwb := H0.le
 have c0 := B0.at 0 rfl
 subst hR
 go_enter Try.func34, Try.ntmps34
 go_wp2_with (first | ((go_at_call 41); (with_reducible refine (number_calls w0 _ sb l S0 H0 hb0).mono ?_); rintro e w1 ⟨hT, hP⟩; rw [hN] at hP; obtain ⟨rfl, S1⟩ := hP; have B1 := B0.turned hT hrs; have c0 := B1.at 0 rfl; have c1 := B1.at 1 rfl; have f1 := B1.frozen 1; have f8 := B1.frozen 8; have H1 := H0.kept ((Kept2.refl sb rb _).one hT) hsb hrb; have K1 := K0.one hT; clear hT) | ((go_at_call 42); with_reducible refine (needs_f _).mono ?_; rintro e w' ⟨rfl, rfl⟩))
 exact ⟨rfl, K1, rfl⟩
theorem fr_no (w0 w : World) (sb rb : Nat) (l : List Int) (B0 : Blk w rb 75 [.pointer (some ⟨sb, 0, none⟩), .int .i64 0, .int .u64 0, .int .u64 0, .int .u64 0, .int .u64 0, .int .u64 0, .int .u64 0, .bool false, .slice none 0 0, .slice none 0 0]) (S0 : Src w0 w sb l) (H0 : Since w0 w) (hb0 : bytesOk l = true) (hrb : w0.heap.size ≤ rb) (hl : l.length < 1000000) (R : Option FrV) (hR : R = none) (n : Int) (l1 : List Int) (hN : uNum l = some (n, l1)) (hd : decide (n ≤ 30) = true) (h15 : (n == 15) = false) (hw : IntKind.i64.wrap n = n) (ho : fOffs n = none) :
  Calls Try.prog 34 #[.pointer (some ⟨rb, 0, none⟩)] w fun e w' => Kept2 sb rb w w' ∧ FrP w0 sb rb R e w' := by
 have hu := Try.underlying75
 have hu2 := Try.underlying27
 have hrs : rb ≠ sb := S0.ne B0 (by decide)
 have hsb := S0.ge
 have K0 := Kept2.refl sb rb w
 have hwb := H0.le
 have c0 := B0.at 0 rfl
 subst hR
 go_enter Try.func34, Try.ntmps34
 go_wp2_with (first | ((go_at_call 41); (with_reducible refine (number_calls w0 _ sb l S0 H0 hb0).mono ?_); rintro e w1 ⟨hT, hP⟩; rw [hN] at hP; obtain ⟨rfl, S1⟩ := hP; have B1 := B0.turned hT hrs; have c0 := B1.at 0 rfl; have c1 := B1.at 1 rfl; have f1 := B1.frozen 1; have f8 := B1.frozen 8; have H1 := H0.kept ((Kept2.refl sb rb _).one hT) hsb hrb; have K1 := K0.one hT; clear hT) | ((go_at_call 26); (with_reducible refine (dfields_no n rb _ ((B1.set 1 (.int .i64 n) rfl).at 1 rfl) ho).mono ?_); rintro e w' ⟨rfl, rfl⟩) | ((go_at_call 42); first | ((with_reducible refine (needs_t _).mono ?_); rintro e w' ⟨rfl, rfl⟩) | ((with_reducible refine (needs_f _).mono ?_); rintro e w' ⟨rfl, rfl⟩)))
 exact ⟨rfl, K1.set, rfl⟩
theorem fr_any (w0 w : World) (sb rb : Nat) (l : List Int) (B0 : Blk w rb 75 [.pointer (some ⟨sb, 0, none⟩), .int .i64 0, .int .u64 0, .int .u64 0, .int .u64 0, .int .u64 0, .int .u64 0, .int .u64 0, .bool false, .slice none 0 0, .slice none 0 0]) (S0 : Src w0 w sb l) (H0 : Since w0 w) (hb0 : bytesOk l = true) (hrb : w0.heap.size ≤ rb) (hl : l.length < 1000000) (R : Option FrV) (n : Int) (l1 : List Int) (hN : uNum l = some (n, l1)) (hd : decide (n ≤ 30) = true) (h15 : (n == 15) = false) (hw : IntKind.i64.wrap n = n) (os : List Nat) (ho : fOffs n = some os) (h2 : (n == 2) = false) (h3 : (n == 3) = false) (hRR : Aside0 (((rNums os (fun _ => 0) l1).bind fun q => rEnd n false [] q.1 q.2) = R)) :
  Calls Try.prog 34 #[.pointer (some ⟨rb, 0, none⟩)] w fun e w' => Kept2 sb rb w w' ∧ FrP w0 sb rb R e w' := by
 have hu := Try.underlying75
 have hu2 := Try.underlying27
 have hrs : rb ≠ sb := S0.ne B0 (by decide)
 have hsb := S0.ge
 have K0 := Kept2.refl sb rb w
 have hwb := H0.le
 have c0 := B0.at 0 rfl
 obtain ⟨-, hb1, hl1', -, -, -, -⟩ := uNum_some hb0 hN
 obtain ⟨hm, hol⟩ := fOffs_mem ho
 have hl2 : l1.length < 1000000 := by omega
 have hb2 := hb1
 clear hl1'
 go_enter Try.func34, Try.ntmps34
 go_wp2_with (first | ((go_at_call 41); (with_reducible refine (number_calls w0 _ sb l S0 H0 hb0).mono ?_); rintro e w1 ⟨hT, hP⟩; rw [hN] at hP; obtain ⟨rfl, S1⟩ := hP; have B1 := B0.turned hT hrs; have c0 := B1.at 0 rfl; have c1 := B1.at 1 rfl; have f1 := B1.frozen 1; have f8 := B1.frozen 8; have H1 := H0.kept ((Kept2.refl sb rb _).one hT) hsb hrb; have K1 := K0.one hT; clear hT) | ((go_at_call 42); with_reducible refine (needs_t _).mono ?_; rintro e w' ⟨rfl, rfl⟩) | ((go_at_call 26); (with_reducible refine (dfieldsC n rb os _ ((B1.set 1 (.int .i64 n) rfl).at 1 rfl) ho).mono ?_); rintro e w2 ⟨A, rfl, P2, hlb⟩; have B2 := (B1.set 1 (.int .i64 n) rfl).below hlb; have c0 := B2.at 0 rfl; have c1 := B2.at 1 rfl; have S2 := (S1.setFar hrs.symm).below hlb; have H2 := (H1.set hrb).below hlb; have K2 := (K1.set).below hlb; clear hlb))
 have R2 := SR.nil w0.heap.size w2
 replace B2 : Blk w2 rb 75 (cellsR sb n (fun _ => 0) false (.slice none 0 0) (.slice none 0 0)) := B2
 clear S1 B1 H1 K1
 go_loopw [58] (fun i wr => ∃ (q : Nat) (f : Nat → Int) (lq : List Int), i = .int .i64 q ∧ q ≤ (os).length ∧ ((rNums ((os).drop q) f lq).bind fun r => rEnd n false ([] : List S47) r.1 r.2) = R ∧ Small f ∧ bytesOk lq = true ∧ lq.length < 1000000 ∧ Blk wr rb 75 (cellsR sb n f false (.slice none 0 0) (.slice none 0 0)) ∧ PR wr A rb ((os).map (· + 1)) ∧ SR w0.heap.size wr (.slice none 0 0) ([] : List S47) ∧ Src w0 wr sb lq ∧ Since w0 wr ∧ Kept2 sb rb w wr) (fun i _ => (os).length - (intOf i).toNat)
 case atStart => exact ⟨0, fun _ => 0, l1, rfl, Nat.zero_le _, hRR.out, Small.zero, hb2, hl2, B2, P2, R2, S2, H2, K2⟩
 case round =>
  clear hRR hb2 B2 P2 R2 S2 H2 K2
  obtain ⟨q, f, lq, rfl, hq, hRR, hf, hbQ, hlq, BQ, PQ, RQ, SQ, HQ, KQ⟩ := hrel
  have c0 := BQ.at 0 rfl
  by_cases hlt : q < (os).length
  ·obtain ⟨o, hoq⟩ : ∃ o, (os)[q]? = some o := ⟨_, List.getElem?_eq_getElem hlt⟩
   have hmo := hm o (List.mem_of_getElem? hoq)
   have hne : (os).map (· + 1) ≠ [] := by intro e; rw [List.map_eq_nil_iff] at e; rw [e] at hlt; simp at hlt
   obtain ⟨b, rfl, BP⟩ := PQ hne
   have k1 : wr.cell? ⟨b, q, none⟩ = some (.pointer (some ⟨rb, o + 1, none⟩)) := (BP.cell q).trans (by rw [List.getElem?_map, List.getElem?_map, hoq]; rfl)
   have hdr : (os).drop q = o :: (os).drop (q + 1) := by
    rw [List.drop_eq_getElem_cons hlt]
    congr 1
    exact Option.some.inj ((List.getElem?_eq_getElem hlt).symm.trans hoq)
   rw [hdr, rNums] at hRR
   have dlt : decide ((q : Int) < ((os).length : Int)) = true := decide_eq_true (by omega)
   have hq1 : q + 1 ≤ (os).length := hlt
   have hqb : q < 1000 := by omega
   have hq2 : (q : Int) < (os).length := by omega
   clear hdr hoq hne BP hq
   cases hN2 : uNum lq with
   | none =>
    obtain rfl : R = none := by rw [← hRR, hN2]; rfl
    clear hRR
    go_wp2_with (first | ((go_at_call 41); (with_reducible refine (number_calls w0 _ sb lq SQ HQ hbQ).mono ?_); rintro e w3 ⟨hT, hP⟩; rw [hN2] at hP; have hP : Gave e := hP; unfold Gave at hP; subst hP))
    exact ⟨rfl, KQ.one hT, rfl⟩
   | some r =>
    obtain ⟨v, l3⟩ := r
    obtain ⟨hv, hb3, hl3, -, -, -, -⟩ := uNum_some hbQ hN2
    rw [hN2] at hRR
    simp only [Option.bind_some] at hRR
    have hRR := Aside0.mk hRR
    go_wp2_with (first | ((go_at_call 41); (with_reducible refine (number_calls w0 _ sb lq SQ HQ hbQ).mono ?_); rintro e w3 ⟨hT, hP⟩; rw [hN2] at hP; obtain ⟨rfl, S3⟩ := hP; have B3 := BQ.turned hT hrs; have c0 := B3.at 0 rfl; have c1 := B3.at 1 rfl; have f1 := B3.frozen 1; have f8 := B3.frozen 8; have H3 := HQ.kept ((Kept2.refl sb rb _).one hT) hsb hrb; have K3 := KQ.one hT; have co := (B3.cell (o + 1)).trans (cellsR_at sb n f false (.slice none 0 0) (.slice none 0 0) o hmo.1 hmo.2); have fo := B3.frozen (o + 1); have R3 := RQ.turnedS SQ hT; have P3 := PR.turnedS PQ SQ hT; clear hT))
    go_roundw
    case rel => exact ⟨q + 1, upd f o v, l3, by go_num, hq1, hRR.out, hf.upd hv o, hb3, by omega, B3.set (o + 1) _ (cellsR_set _ _ _ _ _ _ o v hmo.1 hmo.2), PR.setR P3 B3, R3.setFar B3 (by decide), S3.setFar hrs.symm, H3.set hrb, K3.set⟩
    case measure => simp [intOf]; omega
  ·obtain rfl : q = (os).length := by omega
   rw [List.drop_length, rNums, Option.bind_some] at hRR
   have dlt : decide (((os).length : Int) < ((os).length : Int)) = false := decide_eq_false (by omega)
   have c1 := BQ.at 1 rfl
   have f9 := BQ.frozen 9
   have c9_ := BQ.at 9 rfl
   by_cases h14 : n = 14
   ·have e14 : (n == 14) = true := by simp [h14]
    unfold rEnd at hRR
    rw [if_pos h14] at hRR
    clear h14
    cases hN2 : uNum lq with
    | none =>
     obtain rfl : R = none := by rw [← hRR, hN2]; rfl
     clear hRR
     go_wp2
     have h0 := c0
     clear c0 c1 f9 c9_
     refine start_ (n := 15) (S := fun w' => w'.cell? ⟨rb, 0, none⟩ = some (.pointer (some ⟨sb, 0, none⟩))) (ds := [14]) (bs 15 0) (by kernel_rfl) rfl rfl (BQ.drew.at 0 rfl) (fun hHeld => ?_)
     replace BQ := BQ.drew; replace SQ := SQ.drew; replace RQ := (RQ.below (below_drew1 (Below.refl _ _))); replace HQ := HQ.drew; replace KQ := KQ.drew
     generalize World.drew wr = wr at *
     refine pure_ (i := 0) (N := some 76) (v := ?_) (a' := ?_) (bs 15 1) rfl rfl (by kernel_rfl) (fun _ _ _ h => h) (Or.inl ⟨by rfl, ?_⟩) ?_ ?_
     rotate_left
     ·intro w'
      go_simp
      with_reducible rfl
     rotate_left
     ·simp only [Act.put, qA_, q0_, q1_, i64_w, i32_w]
      rfl
     refine pure_ (i := 1) (N := some 77) (v := ?_) (a' := ?_) (bs 15 3) rfl rfl (by kernel_rfl) (fun _ _ _ h => h) (Or.inl ⟨by rfl, ?_⟩) ?_ ?_
     rotate_left
     ·intro w'
      go_simp
      with_reducible rfl
     rotate_left
     ·simp only [Act.put, qA_, q0_, q1_, i64_w, i32_w]
      rfl
     refine pure_ (i := 2) (N := some 78) (v := ?_) (a' := ?_) (bs 15 7) rfl rfl (by kernel_rfl) (fun _ _ _ h => h) (Or.inl ⟨by rfl, ?_⟩) ?_ ?_
     rotate_left
     ·intro w'
      go_simp
      with_reducible rfl
     rotate_left
     ·simp only [Act.put, qA_, q0_, q1_, i64_w, i32_w]
      rfl
     refine pure_ (i := 3) (N := some 79) (v := ?_) (a' := ?_) (bs 15 15) rfl rfl (by kernel_rfl) (fun _ _ _ h => h) (Or.inl ⟨by rfl, ?_⟩) ?_ ?_
     rotate_left
     ·intro w'
      go_simp
      with_reducible rfl
     rotate_left
     ·simp only [Act.put, qA_, q0_, q1_, i64_w, i32_w]
      rfl
     refine take_ (i := 4) (N := some 80) (v := ?_) (a' := ?_) (bs 15 31) rfl rfl (by kernel_rfl) (fun _ _ _ h => h) (Or.inl ⟨by rfl, ?_⟩) hHeld ?_ ?_
     rotate_left
     ·intro w' s0
      go_simp
      with_reducible rfl
     rotate_left
     ·simp only [Act.put, qA_, q0_, q1_, i64_w, i32_w]
      rfl
     refine pure_ (i := 5) (N := some 81) (v := ?_) (a' := ?_) (bs 15 63) rfl rfl (by kernel_rfl) (fun _ _ _ h => h) (Or.inl ⟨by rfl, ?_⟩) ?_ ?_
     rotate_left
     ·intro w'
      go_simp
      with_reducible rfl
     rotate_left
     ·simp only [Act.put, qA_, q0_, q1_, i64_w, i32_w]
      rfl
     refine pure_ (i := 6) (N := some 82) (v := ?_) (a' := ?_) (bs 15 127) rfl rfl (by kernel_rfl) (fun _ _ _ h => h) (Or.inl ⟨by rfl, ?_⟩) ?_ ?_
     rotate_left
     ·intro w'
      go_simp
      with_reducible rfl
     rotate_left
     ·simp only [Act.put, qA_, q0_, q1_, i64_w, i32_w]
      rfl
     refine pure_ (i := 7) (N := some 83) (v := ?_) (a' := ?_) (bs 15 255) rfl rfl (by kernel_rfl) (fun _ _ _ h => h) (Or.inl ⟨by rfl, ?_⟩) ?_ ?_
     rotate_left
     ·intro w'
      go_simp
      with_reducible rfl
     rotate_left
     ·simp only [Act.put, qA_, q0_, q1_, i64_w, i32_w]
      rfl
     refine take_ (i := 8) (N := some 84) (v := ?_) (a' := ?_) (bs 15 511) rfl rfl (by kernel_rfl) (fun _ _ _ h => h) (Or.inl ⟨by rfl, ?_⟩) hHeld ?_ ?_
     rotate_left
     ·intro w' s0
      go_simp
      with_reducible rfl
     rotate_left
     ·simp only [Act.put, qA_, q0_, q1_, i64_w, i32_w]
      rfl
     refine one_ (i := 9) (N := some 85) (bs 15 1023) rfl rfl (by kernel_rfl) (by decide) (fun K' hK => ?_)
     refine goesP_ Try.func41 (by kernel_rfl) rfl #[.pointer (some ⟨sb, 0, none⟩)] (by rfl) rfl rfl (by first | rfl | (go_simp; done) | (go_simp; rfl)) [{ v := .iface 29 (.int .i64 50), recovered := false }] ?_
     refine (number_calls w0 _ sb lq SQ HQ hbQ).mono ?_
     intro e w3 hh
     obtain ⟨hT, hP⟩ := hh
     rw [hN2] at hP
     exact ⟨hP, rfl, KQ.one hT, rfl⟩
    | some r =>
     obtain ⟨m, l3⟩ := r
     obtain ⟨hm0, hb3, hl3, -, -, -, -⟩ := uNum_some hbQ hN2
     rw [hN2, Option.bind_some] at hRR
     have hlm : l3.length ≤ 140737488355328 := by omega
     by_cases hg : m ≤ (l3.length : Int)
     ·rw [if_pos hg] at hRR
      have hRR := Aside0.mk hRR
      obtain ⟨dd, edd⟩ : ∃ dd, l3.take m.toNat = dd := ⟨_, rfl⟩
      have hdl : dd.length < 1000000 := by rw [← edd, List.length_take]; omega
      simp only [edd] at hRR
      go_wp2
      have h0 := c0
      clear c0 c1 f9 c9_
      refine start_ (n := 15) (S := fun w' => w'.cell? ⟨rb, 0, none⟩ = some (.pointer (some ⟨sb, 0, none⟩))) (ds := [14]) (bs 15 0) (by kernel_rfl) rfl rfl (BQ.drew.at 0 rfl) (fun hHeld => ?_)
      replace BQ := BQ.drew; replace SQ := SQ.drew; replace RQ := (RQ.below (below_drew1 (Below.refl _ _))); replace HQ := HQ.drew; replace KQ := KQ.drew
      generalize World.drew wr = wr at *
      refine pure_ (i := 0) (N := some 76) (v := ?_) (a' := ?_) (bs 15 1) rfl rfl (by kernel_rfl) (fun _ _ _ h => h) (Or.inl ⟨by rfl, ?_⟩) ?_ ?_
      rotate_left
      ·intro w'
       go_simp
       with_reducible rfl
      rotate_left
      ·simp only [Act.put, qA_, q0_, q1_, i64_w, i32_w]
       rfl
      refine pure_ (i := 1) (N := some 77) (v := ?_) (a' := ?_) (bs 15 3) rfl rfl (by kernel_rfl) (fun _ _ _ h => h) (Or.inl ⟨by rfl, ?_⟩) ?_ ?_
      rotate_left
      ·intro w'
       go_simp
       with_reducible rfl
      rotate_left
      ·simp only [Act.put, qA_, q0_, q1_, i64_w, i32_w]
       rfl
      refine pure_ (i := 2) (N := some 78) (v := ?_) (a' := ?_) (bs 15 7) rfl rfl (by kernel_rfl) (fun _ _ _ h => h) (Or.inl ⟨by rfl, ?_⟩) ?_ ?_
      rotate_left
      ·intro w'
       go_simp
       with_reducible rfl
      rotate_left
      ·simp only [Act.put, qA_, q0_, q1_, i64_w, i32_w]
       rfl
      refine pure_ (i := 3) (N := some 79) (v := ?_) (a' := ?_) (bs 15 15) rfl rfl (by kernel_rfl) (fun _ _ _ h => h) (Or.inl ⟨by rfl, ?_⟩) ?_ ?_
      rotate_left
      ·intro w'
       go_simp
       with_reducible rfl
      rotate_left
      ·simp only [Act.put, qA_, q0_, q1_, i64_w, i32_w]
       rfl
      refine take_ (i := 4) (N := some 80) (v := ?_) (a' := ?_) (bs 15 31) rfl rfl (by kernel_rfl) (fun _ _ _ h => h) (Or.inl ⟨by rfl, ?_⟩) hHeld ?_ ?_
      rotate_left
      ·intro w' s0
       go_simp
       with_reducible rfl
      rotate_left
      ·simp only [Act.put, qA_, q0_, q1_, i64_w, i32_w]
       rfl
      refine pure_ (i := 5) (N := some 81) (v := ?_) (a' := ?_) (bs 15 63) rfl rfl (by kernel_rfl) (fun _ _ _ h => h) (Or.inl ⟨by rfl, ?_⟩) ?_ ?_
      rotate_left
      ·intro w'
       go_simp
       with_reducible rfl
      rotate_left
      ·simp only [Act.put, qA_, q0_, q1_, i64_w, i32_w]
       rfl
      refine pure_ (i := 6) (N := some 82) (v := ?_) (a' := ?_) (bs 15 127) rfl rfl (by kernel_rfl) (fun _ _ _ h => h) (Or.inl ⟨by rfl, ?_⟩) ?_ ?_
      rotate_left
      ·intro w'
       go_simp
       with_reducible rfl
      rotate_left
      ·simp only [Act.put, qA_, q0_, q1_, i64_w, i32_w]
       rfl
      refine pure_ (i := 7) (N := some 83) (v := ?_) (a' := ?_) (bs 15 255) rfl rfl (by kernel_rfl) (fun _ _ _ h => h) (Or.inl ⟨by rfl, ?_⟩) ?_ ?_
      rotate_left
      ·intro w'
       go_simp
       with_reducible rfl
      rotate_left
      ·simp only [Act.put, qA_, q0_, q1_, i64_w, i32_w]
       rfl
      refine take_ (i := 8) (N := some 84) (v := ?_) (a' := ?_) (bs 15 511) rfl rfl (by kernel_rfl) (fun _ _ _ h => h) (Or.inl ⟨by rfl, ?_⟩) hHeld ?_ ?_
      rotate_left
      ·intro w' s0
       go_simp
       with_reducible rfl
      rotate_left
      ·simp only [Act.put, qA_, q0_, q1_, i64_w, i32_w]
       rfl
      refine one_ (i := 9) (N := some 85) (bs 15 1023) rfl rfl (by kernel_rfl) (by decide) (fun K' hK => ?_)
      refine goes_ Try.func41 (by kernel_rfl) rfl #[.pointer (some ⟨sb, 0, none⟩)] (by rfl) rfl rfl (by first | rfl | (go_simp; done) | (go_simp; rfl)) ?_
      refine (number_calls w0 _ sb lq SQ HQ hbQ).mono ?_
      intro e w3 hh
      obtain ⟨hT, hP⟩ := hh
      rw [hN2] at hP
      obtain ⟨rfl, S3⟩ := hP
      have B3 := BQ.turned hT hrs
      have R3 := RQ.turnedS SQ hT
      have H3 := HQ.kept ((Kept2.refl sb rb _).one hT) hsb hrb
      have K3 := KQ.one hT
      refine ⟨_, rfl, ?_⟩
      refine hK.out _ _ (B3.at 0 rfl) (fun hHeld => ?_)
      clear hK hT BQ RQ HQ KQ SQ
      refine norm_ (a' := ?_) ?_ ?_
      rotate_left
      ·simp only [Act.put, qA_, q0_, q1_, i64_w, i32_w]
       rfl
      refine one_ (i := 10) (N := some 86) (bs 15 2047) rfl rfl (by kernel_rfl) (by decide) (fun K' hK => ?_)
      refine goes_ Try.func44 (by kernel_rfl) rfl #[.pointer (some ⟨sb, 0, none⟩), .int .u64 m] (by rfl) rfl rfl (by first | rfl | (go_simp; done) | (go_simp; rfl)) ?_
      refine (take_calls w0 _ sb l3 m S3 H3 hm0.1 hg hlm).mono ?_
      intro e w4 hh
      obtain ⟨hT, v, rfl, O4, S4⟩ := hh
      rw [edd] at O4
      have B4 := B3.turned hT hrs
      have R4 := R3.turnedS S3 hT
      have H4 := H3.kept ((Kept2.refl sb rb _).one hT) hsb hrb
      have K4 := K3.one hT
      refine ⟨_, rfl, ?_⟩
      refine hK.out _ _ (B4.at 0 rfl) (fun hHeld => ?_)
      clear hK hT B3 R3 H3 K3 S3
      obtain ⟨Ad, cd, rfl⟩ := Kd.R_slice O4.out
      refine norm_ (a' := ?_) ?_ ?_
      rotate_left
      ·simp only [Act.put, qA_, q0_, q1_, i64_w, i32_w]
       rfl
      refine pure_ (i := 11) (N := some 87) (v := ?_) (a' := ?_) (bs 15 4095) rfl rfl (by kernel_rfl) (fun _ _ _ h => h) (Or.inl ⟨by rfl, ?_⟩) ?_ ?_
      rotate_left
      ·intro w'
       go_simp
       with_reducible rfl
      rotate_left
      ·simp only [Act.put, qA_, q0_, q1_, i64_w, i32_w]
       rfl
      refine pure_ (i := 12) (N := some 88) (v := ?_) (a' := ?_) (bs 15 8191) rfl rfl (by kernel_rfl) (fun _ _ _ h => h) (Or.inl ⟨by rfl, ?_⟩) ?_ ?_
      rotate_left
      ·intro w'
       go_simp
       with_reducible rfl
      rotate_left
      ·simp only [Act.put, qA_, q0_, q1_, i64_w, i32_w]
       rfl
      refine pure_ (i := 13) (N := some 89) (v := ?_) (a' := ?_) (bs 15 16383) rfl rfl (by kernel_rfl) (fun _ _ _ h => h) (Or.inl ⟨by rfl, ?_⟩) ?_ ?_
      rotate_left
      ·intro w'
       go_simp
       with_reducible rfl
      rotate_left
      ·simp only [Act.put, qA_, q0_, q1_, i64_w, i32_w]
       rfl
      have f9 := B4.frozen 9
      have c9_ := B4.at 9 rfl
      refine last_ (i := 14) (N := none) (bs 15 32767) rfl rfl (by kernel_rfl) (by decide) (fun K' hK => ?_)
      refine skip_ (w1 := World.setCell w4 ⟨rb, 9, none⟩ (.slice Ad dd.length cd)) (by rfl) rfl (by first | (go_simp; done) | (go_simp; rfl)) ?_
      refine hK.out _ _ ?_
      refine done_ (by kernel_rfl) ?_
      have B6 : Blk (World.setCell w4 ⟨rb, 9, none⟩ (.slice Ad dd.length cd)) rb 75 _ := B4.set 9 _ rfl
      have O6 := O4.set B4 (by decide) 9 (.slice Ad dd.length cd)
      have R6 := R4.setFar (i := 9) (u := .slice Ad dd.length cd) B4 (by decide)
      have S6 := S4.setFar (i := 9) (u := .slice Ad dd.length cd) hrs.symm
      have K6 := K4.set (i := 9) (u := .slice Ad dd.length cd)
      clear hK O4 R4 S4 H4 K4 B4 f9 c9_ hHeld
      generalize World.setCell w4 ⟨rb, 9, none⟩ (.slice Ad dd.length cd) = w6 at *
      clear edd
      have hRR := hRR.out
      have h8C : Kd.C (Kd.int .u8) w6 Ad (dd).length dd := (Kd.R_reads' O6.out).2.2
      have h8c : (dd).length ≤ cd := (Kd.R_reads' O6.out).2.1
      have h9C : Kd.C k47 w6 none (([] : List S47)).length ([] : List S47) := (Kd.C_nil _ _)
      have h9c : (([] : List S47)).length ≤ 0 := (Nat.le_refl _)
      have hRR : rChk n false ([] : List S47) f dd (l3.drop m.toNat) = R := hRR
      unfold rChk at hRR
      have hC := Aside0.mk (chk_eq (K := 60) (a0 := n) (a7 := false) (l8 := dd) (l9 := ([] : List S47)) (hf.w 1) (hf.w 2) (hf.w 3) (hf.w 4) (hf.w 5) (hf.w 6) hdl (by simp) (by simp))
      generalize uChk n (f 1) (f 2) (f 3) (f 4) (f 5) (f 6) false (dd).length ([] : List S47) = r at hRR hC
      by_cases hz : r = 0
      ·rw [if_pos hz] at hRR
       subst hRR
       have hz' : (r == 0) = true := by simp [hz]
       clear hz
       go_wp2_with (first | ((with_reducible refine gate_dst (N := 93) rfl ?_); refine seg_load rfl (N := 93) rfl 27 (.tmp 92) rfl rb 1 [.int .i64 n, .int .u64 (f 1), .int .u64 (f 2), .int .u64 (f 3), .int .u64 (f 4), .int .u64 (f 5), .int .u64 (f 6), .bool false, .slice Ad dd.length cd, .slice none 0 0] rfl B6 rfl Try.underlying27 rfl (by kernel_rfl) ?_) | ((go_at_call 15); (have hcC := frame_Check.calls 60 n (f 1) (f 2) (f 3) (f 4) (f 5) (f 6) false Ad cd dd none 0 ([] : List S47) r _ h8C h8c h9C h9c hC.out; try simp only [List.length_nil] at hcC); (with_reducible refine hcC.mono ?_); rintro e w9 ⟨rfl, hl9⟩; have B9 := B6.below hl9; have R9 := R6.below hl9; have S9 := S6.below hl9; have K9 := K6.below hl9; have O9 := O6.below hl9; clear hl9) | ((go_at_call 42); with_reducible refine (needs_t _).mono ?_; rintro e w' ⟨rfl, rfl⟩))
       go_end0
       exact ⟨K9, rfl, _, _, B9, O9, R9, S9⟩
      ·rw [if_neg hz] at hRR
       subst hRR
       have hz' : (r == 0) = false := by simp [hz]
       clear hz
       go_wp2_with (first | ((with_reducible refine gate_dst (N := 93) rfl ?_); refine seg_load rfl (N := 93) rfl 27 (.tmp 92) rfl rb 1 [.int .i64 n, .int .u64 (f 1), .int .u64 (f 2), .int .u64 (f 3), .int .u64 (f 4), .int .u64 (f 5), .int .u64 (f 6), .bool false, .slice Ad dd.length cd, .slice none 0 0] rfl B6 rfl Try.underlying27 rfl (by kernel_rfl) ?_) | ((go_at_call 15); (have hcC := frame_Check.calls 60 n (f 1) (f 2) (f 3) (f 4) (f 5) (f 6) false Ad cd dd none 0 ([] : List S47) r _ h8C h8c h9C h9c hC.out; try simp only [List.length_nil] at hcC); (with_reducible refine hcC.mono ?_); rintro e w9 ⟨rfl, hl9⟩; have B9 := B6.below hl9; have R9 := R6.below hl9; have S9 := S6.below hl9; have K9 := K6.below hl9; have O9 := O6.below hl9; clear hl9) | ((go_at_call 42); with_reducible refine (needs_f _).mono ?_; rintro e w' ⟨rfl, rfl⟩))
       exact ⟨rfl, K9, rfl⟩
     ·obtain rfl : R = none := by rw [← hRR, if_neg hg]
      clear hRR
      go_wp2
      have h0 := c0
      clear c0 c1 f9 c9_
      refine start_ (n := 15) (S := fun w' => w'.cell? ⟨rb, 0, none⟩ = some (.pointer (some ⟨sb, 0, none⟩))) (ds := [14]) (bs 15 0) (by kernel_rfl) rfl rfl (BQ.drew.at 0 rfl) (fun hHeld => ?_)
      replace BQ := BQ.drew; replace SQ := SQ.drew; replace RQ := (RQ.below (below_drew1 (Below.refl _ _))); replace HQ := HQ.drew; replace KQ := KQ.drew
      generalize World.drew wr = wr at *
      refine pure_ (i := 0) (N := some 76) (v := ?_) (a' := ?_) (bs 15 1) rfl rfl (by kernel_rfl) (fun _ _ _ h => h) (Or.inl ⟨by rfl, ?_⟩) ?_ ?_
      rotate_left
      ·intro w'
       go_simp
       with_reducible rfl
      rotate_left
      ·simp only [Act.put, qA_, q0_, q1_, i64_w, i32_w]
       rfl
      refine pure_ (i := 1) (N := some 77) (v := ?_) (a' := ?_) (bs 15 3) rfl rfl (by kernel_rfl) (fun _ _ _ h => h) (Or.inl ⟨by rfl, ?_⟩) ?_ ?_
      rotate_left
      ·intro w'
       go_simp
       with_reducible rfl
      rotate_left
      ·simp only [Act.put, qA_, q0_, q1_, i64_w, i32_w]
       rfl
      refine pure_ (i := 2) (N := some 78) (v := ?_) (a' := ?_) (bs 15 7) rfl rfl (by kernel_rfl) (fun _ _ _ h => h) (Or.inl ⟨by rfl, ?_⟩) ?_ ?_
      rotate_left
      ·intro w'
       go_simp
       with_reducible rfl
      rotate_left
      ·simp only [Act.put, qA_, q0_, q1_, i64_w, i32_w]
       rfl
      refine pure_ (i := 3) (N := some 79) (v := ?_) (a' := ?_) (bs 15 15) rfl rfl (by kernel_rfl) (fun _ _ _ h => h) (Or.inl ⟨by rfl, ?_⟩) ?_ ?_
      rotate_left
      ·intro w'
       go_simp
       with_reducible rfl
      rotate_left
      ·simp only [Act.put, qA_, q0_, q1_, i64_w, i32_w]
       rfl
      refine take_ (i := 4) (N := some 80) (v := ?_) (a' := ?_) (bs 15 31) rfl rfl (by kernel_rfl) (fun _ _ _ h => h) (Or.inl ⟨by rfl, ?_⟩) hHeld ?_ ?_
      rotate_left
      ·intro w' s0
       go_simp
       with_reducible rfl
      rotate_left
      ·simp only [Act.put, qA_, q0_, q1_, i64_w, i32_w]
       rfl
      refine pure_ (i := 5) (N := some 81) (v := ?_) (a' := ?_) (bs 15 63) rfl rfl (by kernel_rfl) (fun _ _ _ h => h) (Or.inl ⟨by rfl, ?_⟩) ?_ ?_
      rotate_left
      ·intro w'
       go_simp
       with_reducible rfl
      rotate_left
      ·simp only [Act.put, qA_, q0_, q1_, i64_w, i32_w]
       rfl
      refine pure_ (i := 6) (N := some 82) (v := ?_) (a' := ?_) (bs 15 127) rfl rfl (by kernel_rfl) (fun _ _ _ h => h) (Or.inl ⟨by rfl, ?_⟩) ?_ ?_
      rotate_left
      ·intro w'
       go_simp
       with_reducible rfl
      rotate_left
      ·simp only [Act.put, qA_, q0_, q1_, i64_w, i32_w]
       rfl
      refine pure_ (i := 7) (N := some 83) (v := ?_) (a' := ?_) (bs 15 255) rfl rfl (by kernel_rfl) (fun _ _ _ h => h) (Or.inl ⟨by rfl, ?_⟩) ?_ ?_
      rotate_left
      ·intro w'
       go_simp
       with_reducible rfl
      rotate_left
      ·simp only [Act.put, qA_, q0_, q1_, i64_w, i32_w]
       rfl
      refine take_ (i := 8) (N := some 84) (v := ?_) (a' := ?_) (bs 15 511) rfl rfl (by kernel_rfl) (fun _ _ _ h => h) (Or.inl ⟨by rfl, ?_⟩) hHeld ?_ ?_
      rotate_left
      ·intro w' s0
       go_simp
       with_reducible rfl
      rotate_left
      ·simp only [Act.put, qA_, q0_, q1_, i64_w, i32_w]
       rfl
      refine one_ (i := 9) (N := some 85) (bs 15 1023) rfl rfl (by kernel_rfl) (by decide) (fun K' hK => ?_)
      refine goes_ Try.func41 (by kernel_rfl) rfl #[.pointer (some ⟨sb, 0, none⟩)] (by rfl) rfl rfl (by first | rfl | (go_simp; done) | (go_simp; rfl)) ?_
      refine (number_calls w0 _ sb lq SQ HQ hbQ).mono ?_
      intro e w3 hh
      obtain ⟨hT, hP⟩ := hh
      rw [hN2] at hP
      obtain ⟨rfl, S3⟩ := hP
      have B3 := BQ.turned hT hrs
      have R3 := RQ.turnedS SQ hT
      have H3 := HQ.kept ((Kept2.refl sb rb _).one hT) hsb hrb
      have K3 := KQ.one hT
      refine ⟨_, rfl, ?_⟩
      refine hK.out _ _ (B3.at 0 rfl) (fun hHeld => ?_)
      clear hK hT BQ RQ HQ KQ SQ
      refine norm_ (a' := ?_) ?_ ?_
      rotate_left
      ·simp only [Act.put, qA_, q0_, q1_, i64_w, i32_w]
       rfl
      refine one_ (i := 10) (N := some 86) (bs 15 2047) rfl rfl (by kernel_rfl) (by decide) (fun K' hK => ?_)
      refine goesP_ Try.func44 (by kernel_rfl) rfl #[.pointer (some ⟨sb, 0, none⟩), .int .u64 m] (by rfl) rfl rfl (by first | rfl | (go_simp; done) | (go_simp; rfl)) [{ v := .iface 29 (.int .i64 50), recovered := false }] ?_
      refine (take_no w0 _ sb l3 m S3 (by omega) hlm).mono ?_
      intro e w4 hh
      obtain ⟨hT, hP⟩ := hh
      exact ⟨hP, rfl, K3.one hT, rfl⟩
   ·have e14 : (n == 14) = false := by simp [h14]
    unfold rEnd at hRR
    rw [if_neg h14] at hRR
    clear h14
    have hdl : ([] : List Int).length < 1000000 := by simp
    have h8C : Kd.C (Kd.int .u8) wr none (([] : List Int)).length ([] : List Int) := (Kd.C_nil _ _)
    have h8c : (([] : List Int)).length ≤ 0 := (Nat.le_refl _)
    have h9C : Kd.C k47 wr none (([] : List S47)).length ([] : List S47) := (Kd.C_nil _ _)
    have h9c : (([] : List S47)).length ≤ 0 := (Nat.le_refl _)
    have hRR : rChk n false ([] : List S47) f ([] : List Int) lq = R := hRR
    unfold rChk at hRR
    have hC := Aside0.mk (chk_eq (K := 60) (a0 := n) (a7 := false) (l8 := ([] : List Int)) (l9 := ([] : List S47)) (hf.w 1) (hf.w 2) (hf.w 3) (hf.w 4) (hf.w 5) (hf.w 6) hdl (by simp) (by simp))
    generalize uChk n (f 1) (f 2) (f 3) (f 4) (f 5) (f 6) false (([] : List Int)).length ([] : List S47) = r at hRR hC
    by_cases hz : r = 0
    ·rw [if_pos hz] at hRR
     subst hRR
     have hz' : (r == 0) = true := by simp [hz]
     clear hz
     go_wp2_with (first | ((with_reducible refine gate_dst (N := 93) rfl ?_); refine seg_load rfl (N := 93) rfl 27 (.tmp 92) rfl rb 1 [.int .i64 n, .int .u64 (f 1), .int .u64 (f 2), .int .u64 (f 3), .int .u64 (f 4), .int .u64 (f 5), .int .u64 (f 6), .bool false, .slice none 0 0, .slice none 0 0] rfl BQ rfl Try.underlying27 rfl (by kernel_rfl) ?_) | ((go_at_call 15); (have hcC := frame_Check.calls 60 n (f 1) (f 2) (f 3) (f 4) (f 5) (f 6) false none 0 ([] : List Int) none 0 ([] : List S47) r _ h8C h8c h9C h9c hC.out; try simp only [List.length_nil] at hcC); (with_reducible refine hcC.mono ?_); rintro e w9 ⟨rfl, hl9⟩; have B9 := BQ.below hl9; have R9 := RQ.below hl9; have S9 := SQ.below hl9; have K9 := KQ.below hl9; clear hl9) | ((go_at_call 42); with_reducible refine (needs_t _).mono ?_; rintro e w' ⟨rfl, rfl⟩))
     go_end0
     exact ⟨K9, rfl, _, _, B9, OW.nil _ _, R9, S9⟩
    ·rw [if_neg hz] at hRR
     subst hRR
     have hz' : (r == 0) = false := by simp [hz]
     clear hz
     go_wp2_with (first | ((with_reducible refine gate_dst (N := 93) rfl ?_); refine seg_load rfl (N := 93) rfl 27 (.tmp 92) rfl rb 1 [.int .i64 n, .int .u64 (f 1), .int .u64 (f 2), .int .u64 (f 3), .int .u64 (f 4), .int .u64 (f 5), .int .u64 (f 6), .bool false, .slice none 0 0, .slice none 0 0] rfl BQ rfl Try.underlying27 rfl (by kernel_rfl) ?_) | ((go_at_call 15); (have hcC := frame_Check.calls 60 n (f 1) (f 2) (f 3) (f 4) (f 5) (f 6) false none 0 ([] : List Int) none 0 ([] : List S47) r _ h8C h8c h9C h9c hC.out; try simp only [List.length_nil] at hcC); (with_reducible refine hcC.mono ?_); rintro e w9 ⟨rfl, hl9⟩; have B9 := BQ.below hl9; have R9 := RQ.below hl9; have S9 := SQ.below hl9; have K9 := KQ.below hl9; clear hl9) | ((go_at_call 42); with_reducible refine (needs_f _).mono ?_; rintro e w' ⟨rfl, rfl⟩))
     exact ⟨rfl, K9, rfl⟩
theorem fr_15 (w0 w : World) (sb rb : Nat) (l : List Int) (B0 : Blk w rb 75 [.pointer (some ⟨sb, 0, none⟩), .int .i64 0, .int .u64 0, .int .u64 0, .int .u64 0, .int .u64 0, .int .u64 0, .int .u64 0, .bool false, .slice none 0 0, .slice none 0 0]) (S0 : Src w0 w sb l) (H0 : Since w0 w) (hb0 : bytesOk l = true) (hrb : w0.heap.size ≤ rb) (hl : l.length < 1000000) (R : Option FrV) (l1 : List Int) (hN : uNum l = some (15, l1)) (os : List Nat) (ho : fOffs 14 = some os) (hRR : Aside0 (((rNums os (fun _ => 0) l1).bind fun q => rEnd 14 true [] q.1 q.2) = R)) :
  Calls Try.prog 34 #[.pointer (some ⟨rb, 0, none⟩)] w fun e w' => Kept2 sb rb w w' ∧ FrP w0 sb rb R e w' := by
 have hu := Try.underlying75
 have hu2 := Try.underlying27
 have hrs : rb ≠ sb := S0.ne B0 (by decide)
 have hsb := S0.ge
 have K0 := Kept2.refl sb rb w
 have hwb := H0.le
 have c0 := B0.at 0 rfl
 obtain ⟨-, hb1, hl1', -, -, -, -⟩ := uNum_some hb0 hN
 obtain ⟨hm, hol⟩ := fOffs_mem ho
 have hl2 : l1.length < 1000000 := by omega
 have hb2 := hb1
 clear hl1'
 go_enter Try.func34, Try.ntmps34
 go_wp2_with (first | ((go_at_call 41); (with_reducible refine (number_calls w0 _ sb l S0 H0 hb0).mono ?_); rintro e w1 ⟨hT, hP⟩; rw [hN] at hP; obtain ⟨rfl, S1⟩ := hP; have B1 := B0.turned hT hrs; have c0 := B1.at 0 rfl; have c1 := B1.at 1 rfl; have f1 := B1.frozen 1; have f8 := B1.frozen 8; have H1 := H0.kept ((Kept2.refl sb rb _).one hT) hsb hrb; have K1 := K0.one hT; have c8 := B1.at 8 rfl; clear hT) | ((go_at_call 42); with_reducible refine (needs_t _).mono ?_; rintro e w' ⟨rfl, rfl⟩) | ((go_at_call 26); (with_reducible refine (dfieldsC 14 rb os _ ((((B1.set 1 (.int .i64 15) rfl).set 1 (.int .i64 14) rfl).set 8 (.bool true) rfl).at 1 rfl) ho).mono ?_); rintro e w2 ⟨A, rfl, P2, hlb⟩; have B2 := (((B1.set 1 (.int .i64 15) rfl).set 1 (.int .i64 14) rfl).set 8 (.bool true) rfl).below hlb; have c0 := B2.at 0 rfl; have c1 := B2.at 1 rfl; have S2 := (((S1.setFar hrs.symm).setFar hrs.symm).setFar hrs.symm).below hlb; have H2 := (((H1.set hrb).set hrb).set hrb).below hlb; have K2 := (K1.set.set.set).below hlb; clear hlb))
 have R2 := SR.nil w0.heap.size w2
 replace B2 : Blk w2 rb 75 (cellsR sb 14 (fun _ => 0) true (.slice none 0 0) (.slice none 0 0)) := B2
 clear S1 B1 H1 K1
 go_loopw [58] (fun i wr => ∃ (q : Nat) (f : Nat → Int) (lq : List Int), i = .int .i64 q ∧ q ≤ (os).length ∧ ((rNums ((os).drop q) f lq).bind fun r => rEnd 14 true ([] : List S47) r.1 r.2) = R ∧ Small f ∧ bytesOk lq = true ∧ lq.length < 1000000 ∧ Blk wr rb 75 (cellsR sb 14 f true (.slice none 0 0) (.slice none 0 0)) ∧ PR wr A rb ((os).map (· + 1)) ∧ SR w0.heap.size wr (.slice none 0 0) ([] : List S47) ∧ Src w0 wr sb lq ∧ Since w0 wr ∧ Kept2 sb rb w wr) (fun i _ => (os).length - (intOf i).toNat)
 case atStart => exact ⟨0, fun _ => 0, l1, rfl, Nat.zero_le _, hRR.out, Small.zero, hb2, hl2, B2, P2, R2, S2, H2, K2⟩
 case round =>
  clear hRR hb2 B2 P2 R2 S2 H2 K2
  obtain ⟨q, f, lq, rfl, hq, hRR, hf, hbQ, hlq, BQ, PQ, RQ, SQ, HQ, KQ⟩ := hrel
  have c0 := BQ.at 0 rfl
  by_cases hlt : q < (os).length
  ·obtain ⟨o, hoq⟩ : ∃ o, (os)[q]? = some o := ⟨_, List.getElem?_eq_getElem hlt⟩
   have hmo := hm o (List.mem_of_getElem? hoq)
   have hne : (os).map (· + 1) ≠ [] := by intro e; rw [List.map_eq_nil_iff] at e; rw [e] at hlt; simp at hlt
   obtain ⟨b, rfl, BP⟩ := PQ hne
   have k1 : wr.cell? ⟨b, q, none⟩ = some (.pointer (some ⟨rb, o + 1, none⟩)) := (BP.cell q).trans (by rw [List.getElem?_map, List.getElem?_map, hoq]; rfl)
   have hdr : (os).drop q = o :: (os).drop (q + 1) := by
    rw [List.drop_eq_getElem_cons hlt]
    congr 1
    exact Option.some.inj ((List.getElem?_eq_getElem hlt).symm.trans hoq)
   rw [hdr, rNums] at hRR
   have dlt : decide ((q : Int) < ((os).length : Int)) = true := decide_eq_true (by omega)
   have hq1 : q + 1 ≤ (os).length := hlt
   have hqb : q < 1000 := by omega
   have hq2 : (q : Int) < (os).length := by omega
   clear hdr hoq hne BP hq
   cases hN2 : uNum lq with
   | none =>
    obtain rfl : R = none := by rw [← hRR, hN2]; rfl
    clear hRR
    go_wp2_with (first | ((go_at_call 41); (with_reducible refine (number_calls w0 _ sb lq SQ HQ hbQ).mono ?_); rintro e w3 ⟨hT, hP⟩; rw [hN2] at hP; have hP : Gave e := hP; unfold Gave at hP; subst hP))
    exact ⟨rfl, KQ.one hT, rfl⟩
   | some r =>
    obtain ⟨v, l3⟩ := r
    obtain ⟨hv, hb3, hl3, -, -, -, -⟩ := uNum_some hbQ hN2
    rw [hN2] at hRR
    simp only [Option.bind_some] at hRR
    have hRR := Aside0.mk hRR
    go_wp2_with (first | ((go_at_call 41); (with_reducible refine (number_calls w0 _ sb lq SQ HQ hbQ).mono ?_); rintro e w3 ⟨hT, hP⟩; rw [hN2] at hP; obtain ⟨rfl, S3⟩ := hP; have B3 := BQ.turned hT hrs; have c0 := B3.at 0 rfl; have c1 := B3.at 1 rfl; have f1 := B3.frozen 1; have f8 := B3.frozen 8; have H3 := HQ.kept ((Kept2.refl sb rb _).one hT) hsb hrb; have K3 := KQ.one hT; have co := (B3.cell (o + 1)).trans (cellsR_at sb 14 f true (.slice none 0 0) (.slice none 0 0) o hmo.1 hmo.2); have fo := B3.frozen (o + 1); have R3 := RQ.turnedS SQ hT; have P3 := PR.turnedS PQ SQ hT; clear hT))
    go_roundw
    case rel => exact ⟨q + 1, upd f o v, l3, by go_num, hq1, hRR.out, hf.upd hv o, hb3, by omega, B3.set (o + 1) _ (cellsR_set _ _ _ _ _ _ o v hmo.1 hmo.2), PR.setR P3 B3, R3.setFar B3 (by decide), S3.setFar hrs.symm, H3.set hrb, K3.set⟩
    case measure => simp [intOf]; omega
  ·obtain rfl : q = (os).length := by omega
   rw [List.drop_length, rNums, Option.bind_some] at hRR
   have dlt : decide (((os).length : Int) < ((os).length : Int)) = false := decide_eq_false (by omega)
   have c1 := BQ.at 1 rfl
   have f9 := BQ.frozen 9
   have c9_ := BQ.at 9 rfl
   have hRR : ((uNum lq).bind fun r => if r.1 ≤ r.2.length then rChk 14 true ([] : List S47) f (r.2.take r.1.toNat) (r.2.drop r.1.toNat) else none) = R := hRR
   cases hN2 : uNum lq with
   | none =>
    obtain rfl : R = none := by rw [← hRR, hN2]; rfl
    clear hRR
    go_wp2
    have h0 := c0
    clear c0 c1 f9 c9_
    refine start_ (n := 15) (S := fun w' => w'.cell? ⟨rb, 0, none⟩ = some (.pointer (some ⟨sb, 0, none⟩))) (ds := [14]) (bs 15 0) (by kernel_rfl) rfl rfl (BQ.drew.at 0 rfl) (fun hHeld => ?_)
    replace BQ := BQ.drew; replace SQ := SQ.drew; replace RQ := (RQ.below (below_drew1 (Below.refl _ _))); replace HQ := HQ.drew; replace KQ := KQ.drew
    generalize World.drew wr = wr at *
    refine pure_ (i := 0) (N := some 76) (v := ?_) (a' := ?_) (bs 15 1) rfl rfl (by kernel_rfl) (fun _ _ _ h => h) (Or.inl ⟨by rfl, ?_⟩) ?_ ?_
    rotate_left
    ·intro w'
     go_simp
     with_reducible rfl
    rotate_left
    ·simp only [Act.put, qA_, q0_, q1_, i64_w, i32_w]
     rfl
    refine pure_ (i := 1) (N := some 77) (v := ?_) (a' := ?_) (bs 15 3) rfl rfl (by kernel_rfl) (fun _ _ _ h => h) (Or.inl ⟨by rfl, ?_⟩) ?_ ?_
    rotate_left
    ·intro w'
     go_simp
     with_reducible rfl
    rotate_left
    ·simp only [Act.put, qA_, q0_, q1_, i64_w, i32_w]
     rfl
    refine pure_ (i := 2) (N := some 78) (v := ?_) (a' := ?_) (bs 15 7) rfl rfl (by kernel_rfl) (fun _ _ _ h => h) (Or.inl ⟨by rfl, ?_⟩) ?_ ?_
    rotate_left
    ·intro w'
     go_simp
     with_reducible rfl
    rotate_left
    ·simp only [Act.put, qA_, q0_, q1_, i64_w, i32_w]
     rfl
    refine pure_ (i := 3) (N := some 79) (v := ?_) (a' := ?_) (bs 15 15) rfl rfl (by kernel_rfl) (fun _ _ _ h => h) (Or.inl ⟨by rfl, ?_⟩) ?_ ?_
    rotate_left
    ·intro w'
     go_simp
     with_reducible rfl
    rotate_left
    ·simp only [Act.put, qA_, q0_, q1_, i64_w, i32_w]
     rfl
    refine take_ (i := 4) (N := some 80) (v := ?_) (a' := ?_) (bs 15 31) rfl rfl (by kernel_rfl) (fun _ _ _ h => h) (Or.inl ⟨by rfl, ?_⟩) hHeld ?_ ?_
    rotate_left
    ·intro w' s0
     go_simp
     with_reducible rfl
    rotate_left
    ·simp only [Act.put, qA_, q0_, q1_, i64_w, i32_w]
     rfl
    refine pure_ (i := 5) (N := some 81) (v := ?_) (a' := ?_) (bs 15 63) rfl rfl (by kernel_rfl) (fun _ _ _ h => h) (Or.inl ⟨by rfl, ?_⟩) ?_ ?_
    rotate_left
    ·intro w'
     go_simp
     with_reducible rfl
    rotate_left
    ·simp only [Act.put, qA_, q0_, q1_, i64_w, i32_w]
     rfl
    refine pure_ (i := 6) (N := some 82) (v := ?_) (a' := ?_) (bs 15 127) rfl rfl (by kernel_rfl) (fun _ _ _ h => h) (Or.inl ⟨by rfl, ?_⟩) ?_ ?_
    rotate_left
    ·intro w'
     go_simp
     with_reducible rfl
    rotate_left
    ·simp only [Act.put, qA_, q0_, q1_, i64_w, i32_w]
     rfl
    refine pure_ (i := 7) (N := some 83) (v := ?_) (a' := ?_) (bs 15 255) rfl rfl (by kernel_rfl) (fun _ _ _ h => h) (Or.inl ⟨by rfl, ?_⟩) ?_ ?_
    rotate_left
    ·intro w'
     go_simp
     with_reducible rfl
    rotate_left
    ·simp only [Act.put, qA_, q0_, q1_, i64_w, i32_w]
     rfl
    refine take_ (i := 8) (N := some 84) (v := ?_) (a' := ?_) (bs 15 511) rfl rfl (by kernel_rfl) (fun _ _ _ h => h) (Or.inl ⟨by rfl, ?_⟩) hHeld ?_ ?_
    rotate_left
    ·intro w' s0
     go_simp
     with_reducible rfl
    rotate_left
    ·simp only [Act.put, qA_, q0_, q1_, i64_w, i32_w]
     rfl
    refine one_ (i := 9) (N := some 85) (bs 15 1023) rfl rfl (by kernel_rfl) (by decide) (fun K' hK => ?_)
    refine goesP_ Try.func41 (by kernel_rfl) rfl #[.pointer (some ⟨sb, 0, none⟩)] (by rfl) rfl rfl (by first | rfl | (go_simp; done) | (go_simp; rfl)) [{ v := .iface 29 (.int .i64 50), recovered := false }] ?_
    refine (number_calls w0 _ sb lq SQ HQ hbQ).mono ?_
    intro e w3 hh
    obtain ⟨hT, hP⟩ := hh
    rw [hN2] at hP
    exact ⟨hP, rfl, KQ.one hT, rfl⟩
   | some r =>
    obtain ⟨m, l3⟩ := r
    obtain ⟨hm0, hb3, hl3, -, -, -, -⟩ := uNum_some hbQ hN2
    rw [hN2, Option.bind_some] at hRR
    have hlm : l3.length ≤ 140737488355328 := by omega
    by_cases hg : m ≤ (l3.length : Int)
    ·rw [if_pos hg] at hRR
     have hRR := Aside0.mk hRR
     obtain ⟨dd, edd⟩ : ∃ dd, l3.take m.toNat = dd := ⟨_, rfl⟩
     have hdl : dd.length < 1000000 := by rw [← edd, List.length_take]; omega
     simp only [edd] at hRR
     go_wp2
     have h0 := c0
     clear c0 c1 f9 c9_
     refine start_ (n := 15) (S := fun w' => w'.cell? ⟨rb, 0, none⟩ = some (.pointer (some ⟨sb, 0, none⟩))) (ds := [14]) (bs 15 0) (by kernel_rfl) rfl rfl (BQ.drew.at 0 rfl) (fun hHeld => ?_)
     replace BQ := BQ.drew; replace SQ := SQ.drew; replace RQ := (RQ.below (below_drew1 (Below.refl _ _))); replace HQ := HQ.drew; replace KQ := KQ.drew
     generalize World.drew wr = wr at *
     refine pure_ (i := 0) (N := some 76) (v := ?_) (a' := ?_) (bs 15 1) rfl rfl (by kernel_rfl) (fun _ _ _ h => h) (Or.inl ⟨by rfl, ?_⟩) ?_ ?_
     rotate_left
     ·intro w'
      go_simp
      with_reducible rfl
     rotate_left
     ·simp only [Act.put, qA_, q0_, q1_, i64_w, i32_w]
      rfl
     refine pure_ (i := 1) (N := some 77) (v := ?_) (a' := ?_) (bs 15 3) rfl rfl (by kernel_rfl) (fun _ _ _ h => h) (Or.inl ⟨by rfl, ?_⟩) ?_ ?_
     rotate_left
     ·intro w'
      go_simp
      with_reducible rfl
     rotate_left
     ·simp only [Act.put, qA_, q0_, q1_, i64_w, i32_w]
      rfl
     refine pure_ (i := 2) (N := some 78) (v := ?_) (a' := ?_) (bs 15 7) rfl rfl (by kernel_rfl) (fun _ _ _ h => h) (Or.inl ⟨by rfl, ?_⟩) ?_ ?_
     rotate_left
     ·intro w'
      go_simp
      with_reducible rfl
     rotate_left
     ·simp only [Act.put, qA_, q0_, q1_, i64_w, i32_w]
      rfl
     refine pure_ (i := 3) (N := some 79) (v := ?_) (a' := ?_) (bs 15 15) rfl rfl (by kernel_rfl) (fun _ _ _ h => h) (Or.inl ⟨by rfl, ?_⟩) ?_ ?_
     rotate_left
     ·intro w'
      go_simp
      with_reducible rfl
     rotate_left
     ·simp only [Act.put, qA_, q0_, q1_, i64_w, i32_w]
      rfl
     refine take_ (i := 4) (N := some 80) (v := ?_) (a' := ?_) (bs 15 31) rfl rfl (by kernel_rfl) (fun _ _ _ h => h) (Or.inl ⟨by rfl, ?_⟩) hHeld ?_ ?_
     rotate_left
     ·intro w' s0
      go_simp
      with_reducible rfl
     rotate_left
     ·simp only [Act.put, qA_, q0_, q1_, i64_w, i32_w]
      rfl
     refine pure_ (i := 5) (N := some 81) (v := ?_) (a' := ?_) (bs 15 63) rfl rfl (by kernel_rfl) (fun _ _ _ h => h) (Or.inl ⟨by rfl, ?_⟩) ?_ ?_
     rotate_left
     ·intro w'
      go_simp
      with_reducible rfl
     rotate_left
     ·simp only [Act.put, qA_, q0_, q1_, i64_w, i32_w]
      rfl
     refine pure_ (i := 6) (N := some 82) (v := ?_) (a' := ?_) (bs 15 127) rfl rfl (by kernel_rfl) (fun _ _ _ h => h) (Or.inl ⟨by rfl, ?_⟩) ?_ ?_
     rotate_left
     ·intro w'
      go_simp
      with_reducible rfl
     rotate_left
     ·simp only [Act.put, qA_, q0_, q1_, i64_w, i32_w]
      rfl
     refine pure_ (i := 7) (N := some 83) (v := ?_) (a' := ?_) (bs 15 255) rfl rfl (by kernel_rfl) (fun _ _ _ h => h) (Or.inl ⟨by rfl, ?_⟩) ?_ ?_
     rotate_left
     ·intro w'
      go_simp
      with_reducible rfl
     rotate_left
     ·simp only [Act.put, qA_, q0_, q1_, i64_w, i32_w]
      rfl
     refine take_ (i := 8) (N := some 84) (v := ?_) (a' := ?_) (bs 15 511) rfl rfl (by kernel_rfl) (fun _ _ _ h => h) (Or.inl ⟨by rfl, ?_⟩) hHeld ?_ ?_
     rotate_left
     ·intro w' s0
      go_simp
      with_reducible rfl
     rotate_left
     ·simp only [Act.put, qA_, q0_, q1_, i64_w, i32_w]
      rfl
     refine one_ (i := 9) (N := some 85) (bs 15 1023) rfl rfl (by kernel_rfl) (by decide) (fun K' hK => ?_)
     refine goes_ Try.func41 (by kernel_rfl) rfl #[.pointer (some ⟨sb, 0, none⟩)] (by rfl) rfl rfl (by first | rfl | (go_simp; done) | (go_simp; rfl)) ?_
     refine (number_calls w0 _ sb lq SQ HQ hbQ).mono ?_
     intro e w3 hh
     obtain ⟨hT, hP⟩ := hh
     rw [hN2] at hP
     obtain ⟨rfl, S3⟩ := hP
     have B3 := BQ.turned hT hrs
     have R3 := RQ.turnedS SQ hT
     have H3 := HQ.kept ((Kept2.refl sb rb _).one hT) hsb hrb
     have K3 := KQ.one hT
     refine ⟨_, rfl, ?_⟩
     refine hK.out _ _ (B3.at 0 rfl) (fun hHeld => ?_)
     clear hK hT BQ RQ HQ KQ SQ
     refine norm_ (a' := ?_) ?_ ?_
     rotate_left
     ·simp only [Act.put, qA_, q0_, q1_, i64_w, i32_w]
      rfl
     refine one_ (i := 10) (N := some 86) (bs 15 2047) rfl rfl (by kernel_rfl) (by decide) (fun K' hK => ?_)
     refine goes_ Try.func44 (by kernel_rfl) rfl #[.pointer (some ⟨sb, 0, none⟩), .int .u64 m] (by rfl) rfl rfl (by first | rfl | (go_simp; done) | (go_simp; rfl)) ?_
     refine (take_calls w0 _ sb l3 m S3 H3 hm0.1 hg hlm).mono ?_
     intro e w4 hh
     obtain ⟨hT, v, rfl, O4, S4⟩ := hh
     rw [edd] at O4
     have B4 := B3.turned hT hrs
     have R4 := R3.turnedS S3 hT
     have H4 := H3.kept ((Kept2.refl sb rb _).one hT) hsb hrb
     have K4 := K3.one hT
     refine ⟨_, rfl, ?_⟩
     refine hK.out _ _ (B4.at 0 rfl) (fun hHeld => ?_)
     clear hK hT B3 R3 H3 K3 S3
     obtain ⟨Ad, cd, rfl⟩ := Kd.R_slice O4.out
     refine norm_ (a' := ?_) ?_ ?_
     rotate_left
     ·simp only [Act.put, qA_, q0_, q1_, i64_w, i32_w]
      rfl
     refine pure_ (i := 11) (N := some 87) (v := ?_) (a' := ?_) (bs 15 4095) rfl rfl (by kernel_rfl) (fun _ _ _ h => h) (Or.inl ⟨by rfl, ?_⟩) ?_ ?_
     rotate_left
     ·intro w'
      go_simp
      with_reducible rfl
     rotate_left
     ·simp only [Act.put, qA_, q0_, q1_, i64_w, i32_w]
      rfl
     refine pure_ (i := 12) (N := some 88) (v := ?_) (a' := ?_) (bs 15 8191) rfl rfl (by kernel_rfl) (fun _ _ _ h => h) (Or.inl ⟨by rfl, ?_⟩) ?_ ?_
     rotate_left
     ·intro w'
      go_simp
      with_reducible rfl
     rotate_left
     ·simp only [Act.put, qA_, q0_, q1_, i64_w, i32_w]
      rfl
     refine pure_ (i := 13) (N := some 89) (v := ?_) (a' := ?_) (bs 15 16383) rfl rfl (by kernel_rfl) (fun _ _ _ h => h) (Or.inl ⟨by rfl, ?_⟩) ?_ ?_
     rotate_left
     ·intro w'
      go_simp
      with_reducible rfl
     rotate_left
     ·simp only [Act.put, qA_, q0_, q1_, i64_w, i32_w]
      rfl
     have f9 := B4.frozen 9
     have c9_ := B4.at 9 rfl
     refine last_ (i := 14) (N := none) (bs 15 32767) rfl rfl (by kernel_rfl) (by decide) (fun K' hK => ?_)
     refine skip_ (w1 := World.setCell w4 ⟨rb, 9, none⟩ (.slice Ad dd.length cd)) (by rfl) rfl (by first | (go_simp; done) | (go_simp; rfl)) ?_
     refine hK.out _ _ ?_
     refine done_ (by kernel_rfl) ?_
     have B6 : Blk (World.setCell w4 ⟨rb, 9, none⟩ (.slice Ad dd.length cd)) rb 75 _ := B4.set 9 _ rfl
     have O6 := O4.set B4 (by decide) 9 (.slice Ad dd.length cd)
     have R6 := R4.setFar (i := 9) (u := .slice Ad dd.length cd) B4 (by decide)
     have S6 := S4.setFar (i := 9) (u := .slice Ad dd.length cd) hrs.symm
     have K6 := K4.set (i := 9) (u := .slice Ad dd.length cd)
     clear hK O4 R4 S4 H4 K4 B4 f9 c9_ hHeld
     generalize World.setCell w4 ⟨rb, 9, none⟩ (.slice Ad dd.length cd) = w6 at *
     clear edd
     have hRR := hRR.out
     have h8C : Kd.C (Kd.int .u8) w6 Ad (dd).length dd := (Kd.R_reads' O6.out).2.2
     have h8c : (dd).length ≤ cd := (Kd.R_reads' O6.out).2.1
     have h9C : Kd.C k47 w6 none (([] : List S47)).length ([] : List S47) := (Kd.C_nil _ _)
     have h9c : (([] : List S47)).length ≤ 0 := (Nat.le_refl _)
     have hRR : rChk 14 true ([] : List S47) f dd (l3.drop m.toNat) = R := hRR
     unfold rChk at hRR
     have hC := Aside0.mk (chk_eq (K := 60) (a0 := 14) (a7 := true) (l8 := dd) (l9 := ([] : List S47)) (hf.w 1) (hf.w 2) (hf.w 3) (hf.w 4) (hf.w 5) (hf.w 6) hdl (by simp) (by simp))
     generalize uChk 14 (f 1) (f 2) (f 3) (f 4) (f 5) (f 6) true (dd).length ([] : List S47) = r at hRR hC
     by_cases hz : r = 0
     ·rw [if_pos hz] at hRR
      subst hRR
      have hz' : (r == 0) = true := by simp [hz]
      clear hz
      go_wp2_with (first | ((with_reducible refine gate_dst (N := 93) rfl ?_); refine seg_load rfl (N := 93) rfl 27 (.tmp 92) rfl rb 1 [.int .i64 14, .int .u64 (f 1), .int .u64 (f 2), .int .u64 (f 3), .int .u64 (f 4), .int .u64 (f 5), .int .u64 (f 6), .bool true, .slice Ad dd.length cd, .slice none 0 0] rfl B6 rfl Try.underlying27 rfl (by kernel_rfl) ?_) | ((go_at_call 15); (have hcC := frame_Check.calls 60 14 (f 1) (f 2) (f 3) (f 4) (f 5) (f 6) true Ad cd dd none 0 ([] : List S47) r _ h8C h8c h9C h9c hC.out; try simp only [List.length_nil] at hcC); (with_reducible refine hcC.mono ?_); rintro e w9 ⟨rfl, hl9⟩; have B9 := B6.below hl9; have R9 := R6.below hl9; have S9 := S6.below hl9; have K9 := K6.below hl9; have O9 := O6.below hl9; clear hl9) | ((go_at_call 42); with_reducible refine (needs_t _).mono ?_; rintro e w' ⟨rfl, rfl⟩))
      go_end0
      exact ⟨K9, rfl, _, _, B9, O9, R9, S9⟩
     ·rw [if_neg hz] at hRR
      subst hRR
      have hz' : (r == 0) = false := by simp [hz]
      clear hz
      go_wp2_with (first | ((with_reducible refine gate_dst (N := 93) rfl ?_); refine seg_load rfl (N := 93) rfl 27 (.tmp 92) rfl rb 1 [.int .i64 14, .int .u64 (f 1), .int .u64 (f 2), .int .u64 (f 3), .int .u64 (f 4), .int .u64 (f 5), .int .u64 (f 6), .bool true, .slice Ad dd.length cd, .slice none 0 0] rfl B6 rfl Try.underlying27 rfl (by kernel_rfl) ?_) | ((go_at_call 15); (have hcC := frame_Check.calls 60 14 (f 1) (f 2) (f 3) (f 4) (f 5) (f 6) true Ad cd dd none 0 ([] : List S47) r _ h8C h8c h9C h9c hC.out; try simp only [List.length_nil] at hcC); (with_reducible refine hcC.mono ?_); rintro e w9 ⟨rfl, hl9⟩; have B9 := B6.below hl9; have R9 := R6.below hl9; have S9 := S6.below hl9; have K9 := K6.below hl9; have O9 := O6.below hl9; clear hl9) | ((go_at_call 42); with_reducible refine (needs_f _).mono ?_; rintro e w' ⟨rfl, rfl⟩))
      exact ⟨rfl, K9, rfl⟩
    ·obtain rfl : R = none := by rw [← hRR, if_neg hg]
     clear hRR
     go_wp2
     have h0 := c0
     clear c0 c1 f9 c9_
     refine start_ (n := 15) (S := fun w' => w'.cell? ⟨rb, 0, none⟩ = some (.pointer (some ⟨sb, 0, none⟩))) (ds := [14]) (bs 15 0) (by kernel_rfl) rfl rfl (BQ.drew.at 0 rfl) (fun hHeld => ?_)
     replace BQ := BQ.drew; replace SQ := SQ.drew; replace RQ := (RQ.below (below_drew1 (Below.refl _ _))); replace HQ := HQ.drew; replace KQ := KQ.drew
     generalize World.drew wr = wr at *
     refine pure_ (i := 0) (N := some 76) (v := ?_) (a' := ?_) (bs 15 1) rfl rfl (by kernel_rfl) (fun _ _ _ h => h) (Or.inl ⟨by rfl, ?_⟩) ?_ ?_
     rotate_left
     ·intro w'
      go_simp
      with_reducible rfl
     rotate_left
     ·simp only [Act.put, qA_, q0_, q1_, i64_w, i32_w]
      rfl
     refine pure_ (i := 1) (N := some 77) (v := ?_) (a' := ?_) (bs 15 3) rfl rfl (by kernel_rfl) (fun _ _ _ h => h) (Or.inl ⟨by rfl, ?_⟩) ?_ ?_
     rotate_left
     ·intro w'
      go_simp
      with_reducible rfl
     rotate_left
     ·simp only [Act.put, qA_, q0_, q1_, i64_w, i32_w]
      rfl
     refine pure_ (i := 2) (N := some 78) (v := ?_) (a' := ?_) (bs 15 7) rfl rfl (by kernel_rfl) (fun _ _ _ h => h) (Or.inl ⟨by rfl, ?_⟩) ?_ ?_
     rotate_left
     ·intro w'
      go_simp
      with_reducible rfl
     rotate_left
     ·simp only [Act.put, qA_, q0_, q1_, i64_w, i32_w]
      rfl
     refine pure_ (i := 3) (N := some 79) (v := ?_) (a' := ?_) (bs 15 15) rfl rfl (by kernel_rfl) (fun _ _ _ h => h) (Or.inl ⟨by rfl, ?_⟩) ?_ ?_
     rotate_left
     ·intro w'
      go_simp
      with_reducible rfl
     rotate_left
     ·simp only [Act.put, qA_, q0_, q1_, i64_w, i32_w]
      rfl
     refine take_ (i := 4) (N := some 80) (v := ?_) (a' := ?_) (bs 15 31) rfl rfl (by kernel_rfl) (fun _ _ _ h => h) (Or.inl ⟨by rfl, ?_⟩) hHeld ?_ ?_
     rotate_left
     ·intro w' s0
      go_simp
      with_reducible rfl
     rotate_left
     ·simp only [Act.put, qA_, q0_, q1_, i64_w, i32_w]
      rfl
     refine pure_ (i := 5) (N := some 81) (v := ?_) (a' := ?_) (bs 15 63) rfl rfl (by kernel_rfl) (fun _ _ _ h => h) (Or.inl ⟨by rfl, ?_⟩) ?_ ?_
     rotate_left
     ·intro w'
      go_simp
      with_reducible rfl
     rotate_left
     ·simp only [Act.put, qA_, q0_, q1_, i64_w, i32_w]
      rfl
     refine pure_ (i := 6) (N := some 82) (v := ?_) (a' := ?_) (bs 15 127) rfl rfl (by kernel_rfl) (fun _ _ _ h => h) (Or.inl ⟨by rfl, ?_⟩) ?_ ?_
     rotate_left
     ·intro w'
      go_simp
      with_reducible rfl
     rotate_left
     ·simp only [Act.put, qA_, q0_, q1_, i64_w, i32_w]
      rfl
     refine pure_ (i := 7) (N := some 83) (v := ?_) (a' := ?_) (bs 15 255) rfl rfl (by kernel_rfl) (fun _ _ _ h => h) (Or.inl ⟨by rfl, ?_⟩) ?_ ?_
     rotate_left
     ·intro w'
      go_simp
      with_reducible rfl
     rotate_left
     ·simp only [Act.put, qA_, q0_, q1_, i64_w, i32_w]
      rfl
     refine take_ (i := 8) (N := some 84) (v := ?_) (a' := ?_) (bs 15 511) rfl rfl (by kernel_rfl) (fun _ _ _ h => h) (Or.inl ⟨by rfl, ?_⟩) hHeld ?_ ?_
     rotate_left
     ·intro w' s0
      go_simp
      with_reducible rfl
     rotate_left
     ·simp only [Act.put, qA_, q0_, q1_, i64_w, i32_w]
      rfl
     refine one_ (i := 9) (N := some 85) (bs 15 1023) rfl rfl (by kernel_rfl) (by decide) (fun K' hK => ?_)
     refine goes_ Try.func41 (by kernel_rfl) rfl #[.pointer (some ⟨sb, 0, none⟩)] (by rfl) rfl rfl (by first | rfl | (go_simp; done) | (go_simp; rfl)) ?_
     refine (number_calls w0 _ sb lq SQ HQ hbQ).mono ?_
     intro e w3 hh
     obtain ⟨hT, hP⟩ := hh
     rw [hN2] at hP
     obtain ⟨rfl, S3⟩ := hP
     have B3 := BQ.turned hT hrs
     have R3 := RQ.turnedS SQ hT
     have H3 := HQ.kept ((Kept2.refl sb rb _).one hT) hsb hrb
     have K3 := KQ.one hT
     refine ⟨_, rfl, ?_⟩
     refine hK.out _ _ (B3.at 0 rfl) (fun hHeld => ?_)
     clear hK hT BQ RQ HQ KQ SQ
     refine norm_ (a' := ?_) ?_ ?_
     rotate_left
     ·simp only [Act.put, qA_, q0_, q1_, i64_w, i32_w]
      rfl
     refine one_ (i := 10) (N := some 86) (bs 15 2047) rfl rfl (by kernel_rfl) (by decide) (fun K' hK => ?_)
     refine goesP_ Try.func44 (by kernel_rfl) rfl #[.pointer (some ⟨sb, 0, none⟩), .int .u64 m] (by rfl) rfl rfl (by first | rfl | (go_simp; done) | (go_simp; rfl)) [{ v := .iface 29 (.int .i64 50), recovered := false }] ?_
     refine (take_no w0 _ sb l3 m S3 (by omega) hlm).mono ?_
     intro e w4 hh
     obtain ⟨hT, hP⟩ := hh
     exact ⟨hP, rfl, K3.one hT, rfl⟩
theorem fr_2_no (w0 w : World) (sb rb : Nat) (l : List Int) (B0 : Blk w rb 75 [.pointer (some ⟨sb, 0, none⟩), .int .i64 0, .int .u64 0, .int .u64 0, .int .u64 0, .int .u64 0, .int .u64 0, .int .u64 0, .bool false, .slice none 0 0, .slice none 0 0]) (S0 : Src w0 w sb l) (H0 : Since w0 w) (hb0 : bytesOk l = true) (hrb : w0.heap.size ≤ rb) (hl : l.length < 1000000) (R : Option FrV) (l1 : List Int) (hN : uNum l = some (2, l1)) (os : List Nat) (ho : fOffs 2 = some os) (hR : R = none) (hsp : rSp l1 = none) :
  Calls Try.prog 34 #[.pointer (some ⟨rb, 0, none⟩)] w fun e w' => Kept2 sb rb w w' ∧ FrP w0 sb rb R e w' := by
 have hu := Try.underlying75
 have hu2 := Try.underlying27
 have hrs : rb ≠ sb := S0.ne B0 (by decide)
 have hsb := S0.ge
 have K0 := Kept2.refl sb rb w
 have hwb := H0.le
 have c0 := B0.at 0 rfl
 obtain ⟨-, hb1, -, -, -, -, -⟩ := uNum_some hb0 hN
 subst hR
 go_enter Try.func34, Try.ntmps34
 go_wp2_with (first | ((go_at_call 41); (with_reducible refine (number_calls w0 _ sb l S0 H0 hb0).mono ?_); rintro e w1 ⟨hT, hP⟩; rw [hN] at hP; obtain ⟨rfl, S1⟩ := hP; have B1 := B0.turned hT hrs; have c0 := B1.at 0 rfl; have c1 := B1.at 1 rfl; have f1 := B1.frozen 1; have f8 := B1.frozen 8; have H1 := H0.kept ((Kept2.refl sb rb _).one hT) hsb hrb; have K1 := K0.one hT; clear hT) | ((go_at_call 42); with_reducible refine (needs_t _).mono ?_; rintro e w' ⟨rfl, rfl⟩) | ((go_at_call 26); (with_reducible refine (dfieldsC 2 rb os _ ((B1.set 1 (.int .i64 2) rfl).at 1 rfl) ho).mono ?_); rintro e w2 ⟨A, rfl, P2, hlb⟩; have B2 := (B1.set 1 (.int .i64 2) rfl).below hlb; have c0 := B2.at 0 rfl; have c1 := B2.at 1 rfl; have S2 := (S1.setFar hrs.symm).below hlb; have H2 := (H1.set hrb).below hlb; have K2 := (K1.set).below hlb; clear hlb) | ((go_at_call 43); (with_reducible refine (spans_calls w0 _ sb rb (.int .i64 2) (.int .u64 0) (.int .u64 0) (.int .u64 0) (.int .u64 0) (.int .u64 0) (.int .u64 0) (.bool false) (.slice none 0 0) l1 _ hsp B2 S2 H2 hb1 hrb).mono ?_); rintro e w3 ⟨hK3, hP⟩; have hP : Gave e := hP; unfold Gave at hP; subst hP))
 exact ⟨rfl, K2.trans hK3, rfl⟩
theorem fr_2 (w0 w : World) (sb rb : Nat) (l : List Int) (B0 : Blk w rb 75 [.pointer (some ⟨sb, 0, none⟩), .int .i64 0, .int .u64 0, .int .u64 0, .int .u64 0, .int .u64 0, .int .u64 0, .int .u64 0, .bool false, .slice none 0 0, .slice none 0 0]) (S0 : Src w0 w sb l) (H0 : Since w0 w) (hb0 : bytesOk l = true) (hrb : w0.heap.size ≤ rb) (hl : l.length < 1000000) (R : Option FrV) (l1 : List Int) (hN : uNum l = some (2, l1)) (os : List Nat) (ho : fOffs 2 = some os) (s : List S47) (l2 : List Int) (hsp : rSp l1 = some (s, l2)) (hRR : Aside0 (((rNums os (fun _ => 0) l2).bind fun q => rEnd 2 false s q.1 q.2) = R)) :
  Calls Try.prog 34 #[.pointer (some ⟨rb, 0, none⟩)] w fun e w' => Kept2 sb rb w w' ∧ FrP w0 sb rb R e w' := by
 have hu := Try.underlying75
 have hu2 := Try.underlying27
 have hrs : rb ≠ sb := S0.ne B0 (by decide)
 have hsb := S0.ge
 have K0 := Kept2.refl sb rb w
 have hwb := H0.le
 have c0 := B0.at 0 rfl
 obtain ⟨-, hb1, hl1', -, -, -, -⟩ := uNum_some hb0 hN
 obtain ⟨hm, hol⟩ := fOffs_mem ho
 obtain ⟨hs32, hb3, hl3'⟩ := rSp_len hb1 hsp
 have hl3 : l2.length < 1000000 := by omega
 clear hl1' hl3'
 go_enter Try.func34, Try.ntmps34
 go_wp2_with (first | ((go_at_call 41); (with_reducible refine (number_calls w0 _ sb l S0 H0 hb0).mono ?_); rintro e w1 ⟨hT, hP⟩; rw [hN] at hP; obtain ⟨rfl, S1⟩ := hP; have B1 := B0.turned hT hrs; have c0 := B1.at 0 rfl; have c1 := B1.at 1 rfl; have f1 := B1.frozen 1; have f8 := B1.frozen 8; have H1 := H0.kept ((Kept2.refl sb rb _).one hT) hsb hrb; have K1 := K0.one hT; clear hT) | ((go_at_call 42); with_reducible refine (needs_t _).mono ?_; rintro e w' ⟨rfl, rfl⟩) | ((go_at_call 26); (with_reducible refine (dfieldsC 2 rb os _ ((B1.set 1 (.int .i64 2) rfl).at 1 rfl) ho).mono ?_); rintro e w2 ⟨A, rfl, P2, hlb⟩; have B2 := (B1.set 1 (.int .i64 2) rfl).below hlb; have c0 := B2.at 0 rfl; have c1 := B2.at 1 rfl; have S2 := (S1.setFar hrs.symm).below hlb; have H2 := (H1.set hrb).below hlb; have K2 := (K1.set).below hlb; clear hlb) | ((go_at_call 43); (with_reducible refine (spans_calls w0 _ sb rb (.int .i64 2) (.int .u64 0) (.int .u64 0) (.int .u64 0) (.int .u64 0) (.int .u64 0) (.int .u64 0) (.bool false) (.slice none 0 0) l1 _ hsp B2 S2 H2 hb1 hrb).mono ?_); rintro e w3 ⟨hK3, hP⟩; obtain ⟨rfl, sv, B3, R3, S3⟩ := hP; replace R3 := R3.lower H2.le; have P3 := PR.kept P2 S2 B2 hK3; have H3 := H2.kept hK3 hsb hrb; have K3 := K2.trans hK3; clear hK3))
 obtain ⟨A9, c9, rfl⟩ := Kd.R_slice R3.to
 replace B3 : Blk w3 rb 75 (cellsR sb 2 (fun _ => 0) false (.slice none 0 0) (.slice A9 s.length c9)) := B3
 clear S1 B1 H1 K1 S2 B2 H2 K2 P2
 go_loopw [58] (fun i wr => ∃ (q : Nat) (f : Nat → Int) (lq : List Int), i = .int .i64 q ∧ q ≤ (os).length ∧ ((rNums ((os).drop q) f lq).bind fun r => rEnd 2 false s r.1 r.2) = R ∧ Small f ∧ bytesOk lq = true ∧ lq.length < 1000000 ∧ Blk wr rb 75 (cellsR sb 2 f false (.slice none 0 0) (.slice A9 s.length c9)) ∧ PR wr A rb ((os).map (· + 1)) ∧ SR w0.heap.size wr (.slice A9 s.length c9) s ∧ Src w0 wr sb lq ∧ Since w0 wr ∧ Kept2 sb rb w wr) (fun i _ => (os).length - (intOf i).toNat)
 case atStart => exact ⟨0, fun _ => 0, l2, rfl, Nat.zero_le _, hRR.out, Small.zero, hb3, hl3, B3, P3, R3, S3, H3, K3⟩
 case round =>
  clear hRR hb3 B3 P3 R3 S3 H3 K3
  obtain ⟨q, f, lq, rfl, hq, hRR, hf, hbQ, hlq, BQ, PQ, RQ, SQ, HQ, KQ⟩ := hrel
  have c0 := BQ.at 0 rfl
  by_cases hlt : q < (os).length
  ·obtain ⟨o, hoq⟩ : ∃ o, (os)[q]? = some o := ⟨_, List.getElem?_eq_getElem hlt⟩
   have hmo := hm o (List.mem_of_getElem? hoq)
   have hne : (os).map (· + 1) ≠ [] := by intro e; rw [List.map_eq_nil_iff] at e; rw [e] at hlt; simp at hlt
   obtain ⟨b, rfl, BP⟩ := PQ hne
   have k1 : wr.cell? ⟨b, q, none⟩ = some (.pointer (some ⟨rb, o + 1, none⟩)) := (BP.cell q).trans (by rw [List.getElem?_map, List.getElem?_map, hoq]; rfl)
   have hdr : (os).drop q = o :: (os).drop (q + 1) := by
    rw [List.drop_eq_getElem_cons hlt]
    congr 1
    exact Option.some.inj ((List.getElem?_eq_getElem hlt).symm.trans hoq)
   rw [hdr, rNums] at hRR
   have dlt : decide ((q : Int) < ((os).length : Int)) = true := decide_eq_true (by omega)
   have hq1 : q + 1 ≤ (os).length := hlt
   have hqb : q < 1000 := by omega
   have hq2 : (q : Int) < (os).length := by omega
   clear hdr hoq hne BP hq
   cases hN2 : uNum lq with
   | none =>
    obtain rfl : R = none := by rw [← hRR, hN2]; rfl
    clear hRR
    go_wp2_with (first | ((go_at_call 41); (with_reducible refine (number_calls w0 _ sb lq SQ HQ hbQ).mono ?_); rintro e w3 ⟨hT, hP⟩; rw [hN2] at hP; have hP : Gave e := hP; unfold Gave at hP; subst hP))
    exact ⟨rfl, KQ.one hT, rfl⟩
   | some r =>
    obtain ⟨v, l3⟩ := r
    obtain ⟨hv, hb3, hl3, -, -, -, -⟩ := uNum_some hbQ hN2
    rw [hN2] at hRR
    simp only [Option.bind_some] at hRR
    have hRR := Aside0.mk hRR
    go_wp2_with (first | ((go_at_call 41); (with_reducible refine (number_calls w0 _ sb lq SQ HQ hbQ).mono ?_); rintro e w3 ⟨hT, hP⟩; rw [hN2] at hP; obtain ⟨rfl, S3⟩ := hP; have B3 := BQ.turned hT hrs; have c0 := B3.at 0 rfl; have c1 := B3.at 1 rfl; have f1 := B3.frozen 1; have f8 := B3.frozen 8; have H3 := HQ.kept ((Kept2.refl sb rb _).one hT) hsb hrb; have K3 := KQ.one hT; have co := (B3.cell (o + 1)).trans (cellsR_at sb 2 f false (.slice none 0 0) (.slice A9 s.length c9) o hmo.1 hmo.2); have fo := B3.frozen (o + 1); have R3 := RQ.turnedS SQ hT; have P3 := PR.turnedS PQ SQ hT; clear hT))
    go_roundw
    case rel => exact ⟨q + 1, upd f o v, l3, by go_num, hq1, hRR.out, hf.upd hv o, hb3, by omega, B3.set (o + 1) _ (cellsR_set _ _ _ _ _ _ o v hmo.1 hmo.2), PR.setR P3 B3, R3.setFar B3 (by decide), S3.setFar hrs.symm, H3.set hrb, K3.set⟩
    case measure => simp [intOf]; omega
  ·obtain rfl : q = (os).length := by omega
   rw [List.drop_length, rNums, Option.bind_some] at hRR
   have dlt : decide (((os).length : Int) < ((os).length : Int)) = false := decide_eq_false (by omega)
   have c1 := BQ.at 1 rfl
   have f9 := BQ.frozen 9
   have c9_ := BQ.at 9 rfl
   have hRR : rChk 2 false s f [] lq = R := hRR
   have hdl : ([] : List Int).length < 1000000 := by simp
   have h8C : Kd.C (Kd.int .u8) wr none (([] : List Int)).length ([] : List Int) := (Kd.C_nil _ _)
   have h8c : (([] : List Int)).length ≤ 0 := (Nat.le_refl _)
   have h9C : Kd.C k47 wr A9 (s).length s := (Kd.R_reads' RQ.to).2.2
   have h9c : (s).length ≤ c9 := (Kd.R_reads' RQ.to).2.1
   have hRR : rChk 2 false s f ([] : List Int) lq = R := hRR
   unfold rChk at hRR
   have hC := Aside0.mk (chk_eq (K := 60) (a0 := 2) (a7 := false) (l8 := ([] : List Int)) (l9 := s) (hf.w 1) (hf.w 2) (hf.w 3) (hf.w 4) (hf.w 5) (hf.w 6) hdl (by omega) (by omega))
   generalize uChk 2 (f 1) (f 2) (f 3) (f 4) (f 5) (f 6) false (([] : List Int)).length s = r at hRR hC
   by_cases hz : r = 0
   ·rw [if_pos hz] at hRR
    subst hRR
    have hz' : (r == 0) = true := by simp [hz]
    clear hz
    go_wp2_with (first | ((with_reducible refine gate_dst (N := 93) rfl ?_); refine seg_load rfl (N := 93) rfl 27 (.tmp 92) rfl rb 1 [.int .i64 2, .int .u64 (f 1), .int .u64 (f 2), .int .u64 (f 3), .int .u64 (f 4), .int .u64 (f 5), .int .u64 (f 6), .bool false, .slice none 0 0, .slice A9 s.length c9] rfl BQ rfl Try.underlying27 rfl (by kernel_rfl) ?_) | ((go_at_call 15); (have hcC := frame_Check.calls 60 2 (f 1) (f 2) (f 3) (f 4) (f 5) (f 6) false none 0 ([] : List Int) A9 c9 s r _ h8C h8c h9C h9c hC.out; try simp only [List.length_nil] at hcC); (with_reducible refine hcC.mono ?_); rintro e w9 ⟨rfl, hl9⟩; have B9 := BQ.below hl9; have R9 := RQ.below hl9; have S9 := SQ.below hl9; have K9 := KQ.below hl9; clear hl9) | ((go_at_call 42); with_reducible refine (needs_t _).mono ?_; rintro e w' ⟨rfl, rfl⟩))
    go_end0
    exact ⟨K9, rfl, _, _, B9, OW.nil _ _, R9, S9⟩
   ·rw [if_neg hz] at hRR
    subst hRR
    have hz' : (r == 0) = false := by simp [hz]
    clear hz
    go_wp2_with (first | ((with_reducible refine gate_dst (N := 93) rfl ?_); refine seg_load rfl (N := 93) rfl 27 (.tmp 92) rfl rb 1 [.int .i64 2, .int .u64 (f 1), .int .u64 (f 2), .int .u64 (f 3), .int .u64 (f 4), .int .u64 (f 5), .int .u64 (f 6), .bool false, .slice none 0 0, .slice A9 s.length c9] rfl BQ rfl Try.underlying27 rfl (by kernel_rfl) ?_) | ((go_at_call 15); (have hcC := frame_Check.calls 60 2 (f 1) (f 2) (f 3) (f 4) (f 5) (f 6) false none 0 ([] : List Int) A9 c9 s r _ h8C h8c h9C h9c hC.out; try simp only [List.length_nil] at hcC); (with_reducible refine hcC.mono ?_); rintro e w9 ⟨rfl, hl9⟩; have B9 := BQ.below hl9; have R9 := RQ.below hl9; have S9 := SQ.below hl9; have K9 := KQ.below hl9; clear hl9) | ((go_at_call 42); with_reducible refine (needs_f _).mono ?_; rintro e w' ⟨rfl, rfl⟩))
    exact ⟨rfl, K9, rfl⟩
theorem fr_3_no (w0 w : World) (sb rb : Nat) (l : List Int) (B0 : Blk w rb 75 [.pointer (some ⟨sb, 0, none⟩), .int .i64 0, .int .u64 0, .int .u64 0, .int .u64 0, .int .u64 0, .int .u64 0, .int .u64 0, .bool false, .slice none 0 0, .slice none 0 0]) (S0 : Src w0 w sb l) (H0 : Since w0 w) (hb0 : bytesOk l = true) (hrb : w0.heap.size ≤ rb) (hl : l.length < 1000000) (R : Option FrV) (l1 : List Int) (hN : uNum l = some (3, l1)) (os : List Nat) (ho : fOffs 3 = some os) (hR : R = none) (hsp : rSp l1 = none) :
  Calls Try.prog 34 #[.pointer (some ⟨rb, 0, none⟩)] w fun e w' => Kept2 sb rb w w' ∧ FrP w0 sb rb R e w' := by
 have hu := Try.underlying75
 have hu2 := Try.underlying27
 have hrs : rb ≠ sb := S0.ne B0 (by decide)
 have hsb := S0.ge
 have K0 := Kept2.refl sb rb w
 have hwb := H0.le
 have c0 := B0.at 0 rfl
 obtain ⟨-, hb1, -, -, -, -, -⟩ := uNum_some hb0 hN
 subst hR
 go_enter Try.func34, Try.ntmps34
 go_wp2_with (first | ((go_at_call 41); (with_reducible refine (number_calls w0 _ sb l S0 H0 hb0).mono ?_); rintro e w1 ⟨hT, hP⟩; rw [hN] at hP; obtain ⟨rfl, S1⟩ := hP; have B1 := B0.turned hT hrs; have c0 := B1.at 0 rfl; have c1 := B1.at 1 rfl; have f1 := B1.frozen 1; have f8 := B1.frozen 8; have H1 := H0.kept ((Kept2.refl sb rb _).one hT) hsb hrb; have K1 := K0.one hT; clear hT) | ((go_at_call 42); with_reducible refine (needs_t _).mono ?_; rintro e w' ⟨rfl, rfl⟩) | ((go_at_call 26); (with_reducible refine (dfieldsC 3 rb os _ ((B1.set 1 (.int .i64 3) rfl).at 1 rfl) ho).mono ?_); rintro e w2 ⟨A, rfl, P2, hlb⟩; have B2 := (B1.set 1 (.int .i64 3) rfl).below hlb; have c0 := B2.at 0 rfl; have c1 := B2.at 1 rfl; have S2 := (S1.setFar hrs.symm).below hlb; have H2 := (H1.set hrb).below hlb; have K2 := (K1.set).below hlb; clear hlb) | ((go_at_call 43); (with_reducible refine (spans_calls w0 _ sb rb (.int .i64 3) (.int .u64 0) (.int .u64 0) (.int .u64 0) (.int .u64 0) (.int .u64 0) (.int .u64 0) (.bool false) (.slice none 0 0) l1 _ hsp B2 S2 H2 hb1 hrb).mono ?_); rintro e w3 ⟨hK3, hP⟩; have hP : Gave e := hP; unfold Gave at hP; subst hP))
 exact ⟨rfl, K2.trans hK3, rfl⟩
theorem fr_3 (w0 w : World) (sb rb : Nat) (l : List Int) (B0 : Blk w rb 75 [.pointer (some ⟨sb, 0, none⟩), .int .i64 0, .int .u64 0, .int .u64 0, .int .u64 0, .int .u64 0, .int .u64 0, .int .u64 0, .bool false, .slice none 0 0, .slice none 0 0]) (S0 : Src w0 w sb l) (H0 : Since w0 w) (hb0 : bytesOk l = true) (hrb : w0.heap.size ≤ rb) (hl : l.length < 1000000) (R : Option FrV) (l1 : List Int) (hN : uNum l = some (3, l1)) (os : List Nat) (ho : fOffs 3 = some os) (s : List S47) (l2 : List Int) (hsp : rSp l1 = some (s, l2)) (hRR : Aside0 (((rNums os (fun _ => 0) l2).bind fun q => rEnd 3 false s q.1 q.2) = R)) :
  Calls Try.prog 34 #[.pointer (some ⟨rb, 0, none⟩)] w fun e w' => Kept2 sb rb w w' ∧ FrP w0 sb rb R e w' := by
 have hu := Try.underlying75
 have hu2 := Try.underlying27
 have hrs : rb ≠ sb := S0.ne B0 (by decide)
 have hsb := S0.ge
 have K0 := Kept2.refl sb rb w
 have hwb := H0.le
 have c0 := B0.at 0 rfl
 obtain ⟨-, hb1, hl1', -, -, -, -⟩ := uNum_some hb0 hN
 obtain ⟨hm, hol⟩ := fOffs_mem ho
 obtain ⟨hs32, hb3, hl3'⟩ := rSp_len hb1 hsp
 have hl3 : l2.length < 1000000 := by omega
 clear hl1' hl3'
 go_enter Try.func34, Try.ntmps34
 go_wp2_with (first | ((go_at_call 41); (with_reducible refine (number_calls w0 _ sb l S0 H0 hb0).mono ?_); rintro e w1 ⟨hT, hP⟩; rw [hN] at hP; obtain ⟨rfl, S1⟩ := hP; have B1 := B0.turned hT hrs; have c0 := B1.at 0 rfl; have c1 := B1.at 1 rfl; have f1 := B1.frozen 1; have f8 := B1.frozen 8; have H1 := H0.kept ((Kept2.refl sb rb _).one hT) hsb hrb; have K1 := K0.one hT; clear hT) | ((go_at_call 42); with_reducible refine (needs_t _).mono ?_; rintro e w' ⟨rfl, rfl⟩) | ((go_at_call 26); (with_reducible refine (dfieldsC 3 rb os _ ((B1.set 1 (.int .i64 3) rfl).at 1 rfl) ho).mono ?_); rintro e w2 ⟨A, rfl, P2, hlb⟩; have B2 := (B1.set 1 (.int .i64 3) rfl).below hlb; have c0 := B2.at 0 rfl; have c1 := B2.at 1 rfl; have S2 := (S1.setFar hrs.symm).below hlb; have H2 := (H1.set hrb).below hlb; have K2 := (K1.set).below hlb; clear hlb) | ((go_at_call 43); (with_reducible refine (spans_calls w0 _ sb rb (.int .i64 3) (.int .u64 0) (.int .u64 0) (.int .u64 0) (.int .u64 0) (.int .u64 0) (.int .u64 0) (.bool false) (.slice none 0 0) l1 _ hsp B2 S2 H2 hb1 hrb).mono ?_); rintro e w3 ⟨hK3, hP⟩; obtain ⟨rfl, sv, B3, R3, S3⟩ := hP; replace R3 := R3.lower H2.le; have P3 := PR.kept P2 S2 B2 hK3; have H3 := H2.kept hK3 hsb hrb; have K3 := K2.trans hK3; clear hK3))
 obtain ⟨A9, c9, rfl⟩ := Kd.R_slice R3.to
 replace B3 : Blk w3 rb 75 (cellsR sb 3 (fun _ => 0) false (.slice none 0 0) (.slice A9 s.length c9)) := B3
 clear S1 B1 H1 K1 S2 B2 H2 K2 P2
 go_loopw [58] (fun i wr => ∃ (q : Nat) (f : Nat → Int) (lq : List Int), i = .int .i64 q ∧ q ≤ (os).length ∧ ((rNums ((os).drop q) f lq).bind fun r => rEnd 3 false s r.1 r.2) = R ∧ Small f ∧ bytesOk lq = true ∧ lq.length < 1000000 ∧ Blk wr rb 75 (cellsR sb 3 f false (.slice none 0 0) (.slice A9 s.length c9)) ∧ PR wr A rb ((os).map (· + 1)) ∧ SR w0.heap.size wr (.slice A9 s.length c9) s ∧ Src w0 wr sb lq ∧ Since w0 wr ∧ Kept2 sb rb w wr) (fun i _ => (os).length - (intOf i).toNat)
 case atStart => exact ⟨0, fun _ => 0, l2, rfl, Nat.zero_le _, hRR.out, Small.zero, hb3, hl3, B3, P3, R3, S3, H3, K3⟩
 case round =>
  clear hRR hb3 B3 P3 R3 S3 H3 K3
  obtain ⟨q, f, lq, rfl, hq, hRR, hf, hbQ, hlq, BQ, PQ, RQ, SQ, HQ, KQ⟩ := hrel
  have c0 := BQ.at 0 rfl
  by_cases hlt : q < (os).length
  ·obtain ⟨o, hoq⟩ : ∃ o, (os)[q]? = some o := ⟨_, List.getElem?_eq_getElem hlt⟩
   have hmo := hm o (List.mem_of_getElem? hoq)
   have hne : (os).map (· + 1) ≠ [] := by intro e; rw [List.map_eq_nil_iff] at e; rw [e] at hlt; simp at hlt
   obtain ⟨b, rfl, BP⟩ := PQ hne
   have k1 : wr.cell? ⟨b, q, none⟩ = some (.pointer (some ⟨rb, o + 1, none⟩)) := (BP.cell q).trans (by rw [List.getElem?_map, List.getElem?_map, hoq]; rfl)
   have hdr : (os).drop q = o :: (os).drop (q + 1) := by
    rw [List.drop_eq_getElem_cons hlt]
    congr 1
    exact Option.some.inj ((List.getElem?_eq_getElem hlt).symm.trans hoq)
   rw [hdr, rNums] at hRR
   have dlt : decide ((q : Int) < ((os).length : Int)) = true := decide_eq_true (by omega)
   have hq1 : q + 1 ≤ (os).length := hlt
   have hqb : q < 1000 := by omega
   have hq2 : (q : Int) < (os).length := by omega
   clear hdr hoq hne BP hq
   cases hN2 : uNum lq with
   | none =>
    obtain rfl : R = none := by rw [← hRR, hN2]; rfl
    clear hRR
    go_wp2_with (first | ((go_at_call 41); (with_reducible refine (number_calls w0 _ sb lq SQ HQ hbQ).mono ?_); rintro e w3 ⟨hT, hP⟩; rw [hN2] at hP; have hP : Gave e := hP; unfold Gave at hP; subst hP))
    exact ⟨rfl, KQ.one hT, rfl⟩
   | some r =>
    obtain ⟨v, l3⟩ := r
    obtain ⟨hv, hb3, hl3, -, -, -, -⟩ := uNum_some hbQ hN2
    rw [hN2] at hRR
    simp only [Option.bind_some] at hRR
    have hRR := Aside0.mk hRR
    go_wp2_with (first | ((go_at_call 41); (with_reducible refine (number_calls w0 _ sb lq SQ HQ hbQ).mono ?_); rintro e w3 ⟨hT, hP⟩; rw [hN2] at hP; obtain ⟨rfl, S3⟩ := hP; have B3 := BQ.turned hT hrs; have c0 := B3.at 0 rfl; have c1 := B3.at 1 rfl; have f1 := B3.frozen 1; have f8 := B3.frozen 8; have H3 := HQ.kept ((Kept2.refl sb rb _).one hT) hsb hrb; have K3 := KQ.one hT; have co := (B3.cell (o + 1)).trans (cellsR_at sb 3 f false (.slice none 0 0) (.slice A9 s.length c9) o hmo.1 hmo.2); have fo := B3.frozen (o + 1); have R3 := RQ.turnedS SQ hT; have P3 := PR.turnedS PQ SQ hT; clear hT))
    go_roundw
    case rel => exact ⟨q + 1, upd f o v, l3, by go_num, hq1, hRR.out, hf.upd hv o, hb3, by omega, B3.set (o + 1) _ (cellsR_set _ _ _ _ _ _ o v hmo.1 hmo.2), PR.setR P3 B3, R3.setFar B3 (by decide), S3.setFar hrs.symm, H3.set hrb, K3.set⟩
    case measure => simp [intOf]; omega
  ·obtain rfl : q = (os).length := by omega
   rw [List.drop_length, rNums, Option.bind_some] at hRR
   have dlt : decide (((os).length : Int) < ((os).length : Int)) = false := decide_eq_false (by omega)
   have c1 := BQ.at 1 rfl
   have f9 := BQ.frozen 9
   have c9_ := BQ.at 9 rfl
   have hRR : rChk 3 false s f [] lq = R := hRR
   have hdl : ([] : List Int).length < 1000000 := by simp
   have h8C : Kd.C (Kd.int .u8) wr none (([] : List Int)).length ([] : List Int) := (Kd.C_nil _ _)
   have h8c : (([] : List Int)).length ≤ 0 := (Nat.le_refl _)
   have h9C : Kd.C k47 wr A9 (s).length s := (Kd.R_reads' RQ.to).2.2
   have h9c : (s).length ≤ c9 := (Kd.R_reads' RQ.to).2.1
   have hRR : rChk 3 false s f ([] : List Int) lq = R := hRR
   unfold rChk at hRR
   have hC := Aside0.mk (chk_eq (K := 60) (a0 := 3) (a7 := false) (l8 := ([] : List Int)) (l9 := s) (hf.w 1) (hf.w 2) (hf.w 3) (hf.w 4) (hf.w 5) (hf.w 6) hdl (by omega) (by omega))
   generalize uChk 3 (f 1) (f 2) (f 3) (f 4) (f 5) (f 6) false (([] : List Int)).length s = r at hRR hC
   by_cases hz : r = 0
   ·rw [if_pos hz] at hRR
    subst hRR
    have hz' : (r == 0) = true := by simp [hz]
    clear hz
    go_wp2_with (first | ((with_reducible refine gate_dst (N := 93) rfl ?_); refine seg_load rfl (N := 93) rfl 27 (.tmp 92) rfl rb 1 [.int .i64 3, .int .u64 (f 1), .int .u64 (f 2), .int .u64 (f 3), .int .u64 (f 4), .int .u64 (f 5), .int .u64 (f 6), .bool false, .slice none 0 0, .slice A9 s.length c9] rfl BQ rfl Try.underlying27 rfl (by kernel_rfl) ?_) | ((go_at_call 15); (have hcC := frame_Check.calls 60 3 (f 1) (f 2) (f 3) (f 4) (f 5) (f 6) false none 0 ([] : List Int) A9 c9 s r _ h8C h8c h9C h9c hC.out; try simp only [List.length_nil] at hcC); (with_reducible refine hcC.mono ?_); rintro e w9 ⟨rfl, hl9⟩; have B9 := BQ.below hl9; have R9 := RQ.below hl9; have S9 := SQ.below hl9; have K9 := KQ.below hl9; clear hl9) | ((go_at_call 42); with_reducible refine (needs_t _).mono ?_; rintro e w' ⟨rfl, rfl⟩))
    go_end0
    exact ⟨K9, rfl, _, _, B9, OW.nil _ _, R9, S9⟩
   ·rw [if_neg hz] at hRR
    subst hRR
    have hz' : (r == 0) = false := by simp [hz]
    clear hz
    go_wp2_with (first | ((with_reducible refine gate_dst (N := 93) rfl ?_); refine seg_load rfl (N := 93) rfl 27 (.tmp 92) rfl rb 1 [.int .i64 3, .int .u64 (f 1), .int .u64 (f 2), .int .u64 (f 3), .int .u64 (f 4), .int .u64 (f 5), .int .u64 (f 6), .bool false, .slice none 0 0, .slice A9 s.length c9] rfl BQ rfl Try.underlying27 rfl (by kernel_rfl) ?_) | ((go_at_call 15); (have hcC := frame_Check.calls 60 3 (f 1) (f 2) (f 3) (f 4) (f 5) (f 6) false none 0 ([] : List Int) A9 c9 s r _ h8C h8c h9C h9c hC.out; try simp only [List.length_nil] at hcC); (with_reducible refine hcC.mono ?_); rintro e w9 ⟨rfl, hl9⟩; have B9 := BQ.below hl9; have R9 := RQ.below hl9; have S9 := SQ.below hl9; have K9 := KQ.below hl9; clear hl9) | ((go_at_call 42); with_reducible refine (needs_f _).mono ?_; rintro e w' ⟨rfl, rfl⟩))
    exact ⟨rfl, K9, rfl⟩
theorem fr_kind {n : Int} (h0 : 0 ≤ n) (h : n ≤ 30) : IntKind.i64.wrap n = n := by rw [IntKind.wrap_i64]; omega
theorem frame_calls (w0 w : World) (sb rb : Nat) (l : List Int) (R : Option FrV) (hR : rFr l = R) (B0 : Blk w rb 75 [.pointer (some ⟨sb, 0, none⟩), .int .i64 0, .int .u64 0, .int .u64 0, .int .u64 0, .int .u64 0, .int .u64 0, .int .u64 0, .bool false, .slice none 0 0, .slice none 0 0]) (S0 : Src w0 w sb l) (H0 : Since w0 w) (hb0 : bytesOk l = true) (hrb : w0.heap.size ≤ rb) (hl : l.length < 1000000) :
  Calls Try.prog 34 #[.pointer (some ⟨rb, 0, none⟩)] w fun e w' => Kept2 sb rb w w' ∧ FrP w0 sb rb R e w' := by
 unfold rFr at hR
 cases hN : uNum l with
 | none => exact fr_none w0 w sb rb l B0 S0 H0 hb0 hrb hl R (by rw [← hR, hN]; rfl) hN
 | some r =>
  obtain ⟨n, l1⟩ := r
  obtain ⟨hn, hb1, -, -, -, -, -⟩ := uNum_some hb0 hN
  rw [hN, Option.bind_some] at hR
  simp only at hR
  by_cases h30 : n ≤ 30
  ·rw [if_pos h30] at hR
   have hd : decide (n ≤ 30) = true := decide_eq_true h30
   by_cases h15 : n = 15
   ·subst h15
    rw [if_pos rfl] at hR
    exact fr_15 w0 w sb rb l B0 S0 H0 hb0 hrb hl R l1 hN [1, 2] rfl ⟨hR⟩
   ·rw [if_neg h15] at hR
    have e15 : (n == 15) = false := beq_eq_false_iff_ne.mpr h15
    unfold rKind at hR
    cases ho : fOffs n with
    | none =>
     rw [ho] at hR
     exact fr_no w0 w sb rb l B0 S0 H0 hb0 hrb hl R hR.symm n l1 hN hd e15 (fr_kind hn.1 h30) ho
    | some os =>
     rw [ho] at hR
     simp only at hR
     by_cases hk : n = 2 ∨ n = 3
     ·rw [if_pos hk] at hR
      cases hsp : rSp l1 with
      | none =>
       have hR0 : R = none := by rw [← hR, hsp]; rfl
       rcases hk with rfl | rfl
       ·exact fr_2_no w0 w sb rb l B0 S0 H0 hb0 hrb hl R l1 hN os ho hR0 hsp
       ·exact fr_3_no w0 w sb rb l B0 S0 H0 hb0 hrb hl R l1 hN os ho hR0 hsp
      | some r =>
       obtain ⟨s, l2⟩ := r
       rw [hsp, Option.bind_some] at hR
       rcases hk with rfl | rfl
       ·exact fr_2 w0 w sb rb l B0 S0 H0 hb0 hrb hl R l1 hN os ho s l2 hsp ⟨hR⟩
       ·exact fr_3 w0 w sb rb l B0 S0 H0 hb0 hrb hl R l1 hN os ho s l2 hsp ⟨hR⟩
     ·rw [if_neg hk] at hR
      exact fr_any w0 w sb rb l B0 S0 H0 hb0 hrb hl R n l1 hN hd e15 (fr_kind hn.1 h30) os ho (beq_eq_false_iff_ne.mpr fun h => hk (.inl h)) (beq_eq_false_iff_ne.mpr fun h => hk (.inr h)) ⟨hR⟩
  ·rw [if_neg h30] at hR
   exact fr_big w0 w sb rb l B0 S0 H0 hb0 hrb hl R hR.symm n l1 hN (decide_eq_false h30)
theorem clos_idle (ge gf gn : Nat) (x : Int) (w : World) (Be : Blk w ge 29 [.int .i64 x]) :
  CallsD Try.prog 32 #[.pointer (some ⟨ge, 0, none⟩), .pointer (some ⟨gf, 0, none⟩), .pointer (some ⟨gn, 0, none⟩)] .returning w fun e u' w' => e = .returned (.tuple #[]) ∧ u' = .returning ∧ w' = w.setCell ⟨ge, 0, none⟩ (.int .i64 0) := by
 have c0 := Be.at 0 rfl
 have f0 := Be.frozen 0
 refine callsD_of_wpS Try.func32 rfl fun c₀ cs hu => ?_
 apply wpS_seq
 apply wpS_region
 simp [wpOpsS, go_sem, recoverD, hu, Try.ntmps32, Exit.thenS]
 refine (caught_nil w).mono ?_
 rintro e w' ⟨rfl, rfl⟩
 simp [go_sem, c0, f0]
 apply wpS_seq
 apply wpS_region
 simp [wpOpsS, go_sem, c0, f0, Exit.thenS]
 refine wpS_cond (t := false) (by simp [Act.eval, Array.replicate]) ?_
 simp only [Bool.false_eq_true, if_false]
 refine wpS_of_wp (wp_skip ?_)
 cases c₀
 simp_all [bodyPostS, results, Try.func32]
theorem clos_gave (ge gf gn : Nat) (x n0 : Int) (l0 : List Value) (hl0 : l0.length = 10) (w : World) (Be : Blk w ge 29 [.int .i64 x]) (Bf : Blk w gf 27 l0) (Bn : Blk w gn 3 [.int .i64 n0]) :
  CallsD Try.prog 32 #[.pointer (some ⟨ge, 0, none⟩), .pointer (some ⟨gf, 0, none⟩), .pointer (some ⟨gn, 0, none⟩)] (.panicking [{ v := .iface 29 (.int .i64 50), recovered := false }]) w fun e u' w' =>
   e = .returned (.tuple #[]) ∧ u' = .panicking [{ v := .iface 29 (.int .i64 50), recovered := true }] ∧ Blk w' ge 29 [.int .i64 50] ∧ Blk w' gf 27 [.int .i64 0, .int .u64 0, .int .u64 0, .int .u64 0, .int .u64 0, .int .u64 0, .int .u64 0, .bool false, .slice none 0 0, .slice none 0 0] ∧ Blk w' gn 3 [.int .i64 0] ∧ (∀ w0, Since w0 w → w0.heap.size ≤ ge → w0.heap.size ≤ gf → w0.heap.size ≤ gn → Since w0 w') := by
 have c0 := Be.at 0 rfl
 have f0 := Be.frozen 0
 have hef : ge ≠ gf := blk_ne_of Be Bf (by decide)
 have hen : ge ≠ gn := blk_ne_of Be Bn (by decide)
 have hfn : gf ≠ gn := blk_ne_of Bf Bn (by decide)
 have hu27 := Try.underlying27
 refine callsD_of_wpS Try.func32 rfl fun c₀ cs hu => ?_
 apply wpS_seq
 apply wpS_region
 simp [wpOpsS, go_sem, recoverD, hu, Try.ntmps32, Exit.thenS]
 refine (caught_it w).mono ?_
 rintro e w' ⟨rfl, rfl⟩
 simp [go_sem, c0, f0]
 apply wpS_seq
 apply wpS_region
 simp [wpOpsS, go_sem, c0, f0, Exit.thenS]
 refine wpS_cond (t := true) (by simp [Act.eval, Array.replicate]) ?_
 simp only [if_true]
 replace Be := Be.set 0 (.int .i64 50) rfl
 replace Bf := Bf.setFar (i := 0) (u := .int .i64 50) hef.symm
 replace Bn := Bn.setFar (i := 0) (u := .int .i64 50) hen.symm
 have HS : ∀ w0, Since w0 w → w0.heap.size ≤ ge → Since w0 (w.setCell ⟨ge, 0, none⟩ (.int .i64 50)) := fun w0 h h1 => h.set h1
 generalize w.setCell ⟨ge, 0, none⟩ (.int .i64 50) = w1 at *
 have c1 := Bn.at 0 rfl
 have f1 := Bn.frozen 0
 refine wpS_of_wp ?_
 go_wp2_with (refine seg_store rfl rfl 27 (.tmp 1) (.tmp 7) rfl gf 0 [.int .i64 0, .int .u64 0, .int .u64 0, .int .u64 0, .int .u64 0, .int .u64 0, .int .u64 0, .bool false, .slice none 0 0, .slice none 0 0] [.int .i64 0, .int .u64 0, .int .u64 0, .int .u64 0, .int .u64 0, .int .u64 0, .int .u64 0, .bool false, .slice none 0 0, .slice none 0 0] _ rfl rfl rfl Bf (by kernel_rfl) (by rw [hl0]; decide) rfl ?hx ?_; (case hx => (rw [List.drop_of_length_le (by rw [hl0]; decide)]; rfl)); intro w2 Bf2 hg2; have Be2 := Be.grown hg2 hef; have Bn2 := Bn.grown hg2 hfn.symm; have c2 := Bn2.at 0 rfl; have f2 := Bn2.frozen 0)
 have B1 : Blk (w2.setCell ⟨gn, 0, none⟩ (.int .i64 0)) ge 29 [.int .i64 50] := Be2.setFar hen
 have B2 := Bf2.setFar (i := 0) (u := .int .i64 0) hfn
 have B3 : Blk (w2.setCell ⟨gn, 0, none⟩ (.int .i64 0)) gn 3 [.int .i64 0] := Bn2.set 0 _ rfl
 have HS2 : ∀ (w0 : World), Since w0 w → w0.heap.size ≤ ge → w0.heap.size ≤ gf → w0.heap.size ≤ gn → Since w0 (w2.setCell ⟨gn, 0, none⟩ (.int .i64 0)) := fun w0 h h1 h2 h3 => ((HS w0 h h1).grown hg2 h2).set h3
 generalize w2.setCell ⟨gn, 0, none⟩ (.int .i64 0) = w3 at *
 simp [bodyPostS, results, Try.func32]
 exact ⟨B1, B2, B3, HS2⟩
theorem Blk.kept {w w1 : World} {g a b : Nat} {t : TypeId} {l : List Value} (h : Blk w g t l) (hk : Kept2 a b w w1) (ha : g ≠ a) (hb : g ≠ b) : Blk w1 g t l := ⟨(hk.block g h.lt ha hb).trans h.out⟩
theorem leaves_tmps {P : Program} {fn : Func} {R : Ending → World → Prop} {t t' : Array Value} (h : ∀ w, (results fn t).run P w = (results fn t').run P w) : ∀ ds u w, Leaves P fn t R ds u w → Leaves P fn t' R ds u w
 | [], .returning, w, hl => by
  obtain ⟨v, hv, hr⟩ := hl
  exact ⟨v, by rw [← h]; exact hv, hr⟩
 | [], .panicking chain, w, hl => hl
 | [], .run, w, hl => hl
 | d :: ds, u, w, hl => by
  obtain ⟨hu, fv, cap, f, args, ht, hi, hc⟩ := hl
  refine ⟨hu, fv, cap, f, args, ht, hi, ?_⟩
  refine hc.mono ?_
  intro e u' w' hh
  cases e with
  | returned v => exact leaves_tmps h ds _ _ hh
  | panicked c => exact leaves_tmps h ds _ _ hh
  | outgrown => exact hh
theorem hQ17 {K : Act → World → Prop} {R : Ending → World → Prop} (N : Nat) (hN : N ≠ 2 ∧ N ≠ 3 ∧ N ≠ 4) (v : Value) (c : List PanicEntry) (a : Act) (w : World) (h : Exit.then K (bodyPostD Try.prog Try.f17 R) (.panic c) (a.put (some N) v) w) : Exit.then K (bodyPostD Try.prog Try.f17 R) (.panic c) a w := by
 obtain ⟨h2, h3, h4⟩ := hN
 refine leaves_tmps (t := (a.put (some N) v).tmps) (fun w => ?_) _ _ _ h
 have e : ∀ k, N ≠ k → ((a.put (some N) v).tmps)[k]?.getD undef = (a.tmps)[k]?.getD undef := fun k hk => by simp [Act.put, Array.getElem?_setIfInBounds_ne, hk]
 simp [results, Try.f17, e 2 h2, e 3 h3, e 4 h4]
abbrev PaV := Int × Int × Int × Int × Int × Int × Int × Bool × List Int × List S47 × Int × Int
def uParse (l : List Int) : PaV := match rFr l with
 | none => (0, 0, 0, 0, 0, 0, 0, false, [], [], 0, 50)
 | some (K, f, fin, d, s, r) => (K, f 1, f 2, f 3, f 4, f 5, f 6, fin, d, s, (l.length : Int) - r.length, 0)
theorem parse_no (A : Option Addr) (c : Nat) (l : List Int) (w : World) (hr : Kd.C (Kd.int .u8) w A l.length l) (hc : l.length ≤ c) (hb : bytesOk l = true) (hl : l.length < 1000000) (hR : rFr l = none) :
  Calls Try.prog 17 #[.slice A l.length c] w fun e w' => e = .returned (.tuple #[.agg #[.int .i64 0, .int .u64 0, .int .u64 0, .int .u64 0, .int .u64 0, .int .u64 0, .int .u64 0, .bool false, .slice none 0 0, .slice none 0 0], .int .i64 0, .int .i64 50]) ∧ Since w w' := by
 have hmf : ∀ (fn : Fn) (first cap : Array Value) (w : World), (Instr.makeFunc fn first cap).run Try.prog w = .ok (.func fn first cap) w := fun _ _ _ _ => rfl
 have H0 := Since.refl w
 go_enter_defers Try.func17, Try.ntmps17
 go_wp2_with (first
  | ((with_reducible refine gate_dst (N := 2) rfl ?_); refine seg_new rfl (N := 2) rfl [.int .i64 0, .int .u64 0, .int .u64 0, .int .u64 0, .int .u64 0, .int .u64 0, .int .u64 0, .bool false, .slice none 0 0, .slice none 0 0] 27 ?hr ?_; (case hr => rfl); intro gf hg1 w1 Bf hlb; have Gf := ge_new H0 hg1; clear hg1; have H1 := H0.below hlb; clear hlb)
  | ((with_reducible refine gate_dst (N := 3) rfl ?_); refine seg_new rfl (N := 3) rfl [.int .i64 0] 3 ?hr ?_; (case hr => rfl); intro gn hg1 w2 Bn hlb; have Gn := ge_new H1 hg1; clear hg1; have H2 := H1.below hlb; replace Bf := Bf.below hlb; clear hlb)
  | ((with_reducible refine gate_dst (N := 4) rfl ?_); refine seg_new rfl (N := 4) rfl [.int .i64 0] 29 ?hr ?_; (case hr => rfl); intro ge hg1 w3 Be hlb; have Ge := ge_new H2 hg1; clear hg1; have H3 := H2.below hlb; replace Bf := Bf.below hlb; replace Bn := Bn.below hlb; clear hlb)
  | ((with_reducible refine gate_dst (N := 9) rfl ?_); refine seg_new rfl (N := 9) rfl [.slice A l.length c] 73 ?hr ?_; (case hr => rfl); intro sb hg1 w4 Bs hlb; have Gs := ge_new H3 hg1; clear hg1; have H4 := H3.below hlb; replace Bf := Bf.below hlb; replace Bn := Bn.below hlb; replace Be := Be.below hlb; clear hlb)
  | ((with_reducible refine gate_dst (N := 11) rfl ?_); refine seg_new rfl (N := 11) rfl [.pointer (some ⟨sb, 0, none⟩), .int .i64 0, .int .u64 0, .int .u64 0, .int .u64 0, .int .u64 0, .int .u64 0, .int .u64 0, .bool false, .slice none 0 0, .slice none 0 0] 75 ?hr ?_; (case hr => rfl); intro rb hg1 w5 Br hlb; have Gr := ge_new H4 hg1; clear hg1; have H5 := H4.below hlb; replace Bf := Bf.below hlb; replace Bn := Bn.below hlb; replace Be := Be.below hlb; replace Bs := Bs.below hlb; clear hlb)
  | ((go_at_call 34); (with_reducible refine (frame_calls w _ sb rb l none hR Br ⟨Gs, A, c, Bs, hr, hc⟩ H5 hb Gr hl).mono ?_); rintro e w6 ⟨hK, hP⟩; have hP : Gave e := hP; unfold Gave at hP; subst hP))
 have hfs : gf ≠ sb := blk_ne_of Bf Bs (by decide)
 have hfr : gf ≠ rb := blk_ne_of Bf Br (by decide)
 have hns : gn ≠ sb := blk_ne_of Bn Bs (by decide)
 have hnr : gn ≠ rb := blk_ne_of Bn Br (by decide)
 have hes : ge ≠ sb := blk_ne_of Be Bs (by decide)
 have her : ge ≠ rb := blk_ne_of Be Br (by decide)
 have hef : ge ≠ gf := blk_ne_of Be Bf (by decide)
 have hen : ge ≠ gn := blk_ne_of Be Bn (by decide)
 have hnf : gn ≠ gf := blk_ne_of Bn Bf (by decide)
 replace Bf := Bf.kept hK hfs hfr
 replace Bn := Bn.kept hK hns hnr
 replace Be := Be.kept hK hes her
 have H6 := H5.kept hK Gs Gr
 clear hK Bs Br H5 H4 H3 H2 H1
 refine leaves_cons (f := 32) (args := #[.pointer (some ⟨ge, 0, none⟩), .pointer (some ⟨gf, 0, none⟩), .pointer (some ⟨gn, 0, none⟩)]) (by simp) (by simp [go_sem]) ?_
 refine (clos_gave ge gf gn 0 0 _ rfl w6 Be Bf Bn).mono ?_
 rintro e u' w7 ⟨rfl, rfl, Be7, Bf7, Bn7, HS⟩
 have H7 := HS w H6 Ge Gf Gn
 have d0 := Bf7.at 0 rfl; have d1 := Bf7.at 1 rfl; have d2 := Bf7.at 2 rfl; have d3 := Bf7.at 3 rfl; have d4 := Bf7.at 4 rfl; have d5 := Bf7.at 5 rfl; have d6 := Bf7.at 6 rfl; have d7 := Bf7.at 7 rfl; have d8 := Bf7.at 8 rfl; have d9 := Bf7.at 9 rfl
 have c1 := Be7.at 0 rfl
 have c2 := Bn7.at 0 rfl
 simp [Leaves, settle, results, Try.func17, go_sem, c1, c2, d0, d1, d2, d3, d4, d5, d6, d7, d8, d9]
 exact H7
theorem parse_ok (A : Option Addr) (c : Nat) (l : List Int) (w : World) (hr : Kd.C (Kd.int .u8) w A l.length l) (hc : l.length ≤ c) (hb : bytesOk l = true) (hl : l.length < 1000000) (K : Int) (f : Nat → Int) (fin : Bool) (d : List Int) (s : List S47) (r : List Int) (hR : rFr l = some (K, f, fin, d, s, r)) (hwl : IntKind.i64.wrap ((l.length : Int) - (r.length : Int)) = (l.length : Int) - r.length) :
  Calls Try.prog 17 #[.slice A l.length c] w fun e w' => ∃ dv sv, e = .returned (.tuple #[.agg #[.int .i64 K, .int .u64 (f 1), .int .u64 (f 2), .int .u64 (f 3), .int .u64 (f 4), .int .u64 (f 5), .int .u64 (f 6), .bool fin, dv, sv], .int .i64 ((l.length : Int) - r.length), .int .i64 0]) ∧ OW w w' dv d ∧ SR w.heap.size w' sv s ∧ Since w w' := by
 have hmf : ∀ (fn : Fn) (first cap : Array Value) (w : World), (Instr.makeFunc fn first cap).run Try.prog w = .ok (.func fn first cap) w := fun _ _ _ _ => rfl
 have H0 := Since.refl w
 go_enter_defers Try.func17, Try.ntmps17
 go_wp2_with (first
  | ((with_reducible refine gate_dst (N := 2) rfl ?_); refine seg_new rfl (N := 2) rfl [.int .i64 0, .int .u64 0, .int .u64 0, .int .u64 0, .int .u64 0, .int .u64 0, .int .u64 0, .bool false, .slice none 0 0, .slice none 0 0] 27 ?hr ?_; (case hr => rfl); intro gf hg1 w1 Bf hlb; have Gf := ge_new H0 hg1; clear hg1; have H1 := H0.below hlb; clear hlb)
  | ((with_reducible refine gate_dst (N := 3) rfl ?_); refine seg_new rfl (N := 3) rfl [.int .i64 0] 3 ?hr ?_; (case hr => rfl); intro gn hg1 w2 Bn hlb; have Gn := ge_new H1 hg1; clear hg1; have H2 := H1.below hlb; replace Bf := Bf.below hlb; clear hlb)
  | ((with_reducible refine gate_dst (N := 4) rfl ?_); refine seg_new rfl (N := 4) rfl [.int .i64 0] 29 ?hr ?_; (case hr => rfl); intro ge hg1 w3 Be hlb; have Ge := ge_new H2 hg1; clear hg1; have H3 := H2.below hlb; replace Bf := Bf.below hlb; replace Bn := Bn.below hlb; clear hlb)
  | ((with_reducible refine gate_dst (N := 9) rfl ?_); refine seg_new rfl (N := 9) rfl [.slice A l.length c] 73 ?hr ?_; (case hr => rfl); intro sb hg1 w4 Bs hlb; have Gs := ge_new H3 hg1; clear hg1; have H4 := H3.below hlb; replace Bf := Bf.below hlb; replace Bn := Bn.below hlb; replace Be := Be.below hlb; clear hlb)
  | ((with_reducible refine gate_dst (N := 11) rfl ?_); refine seg_new rfl (N := 11) rfl [.pointer (some ⟨sb, 0, none⟩), .int .i64 0, .int .u64 0, .int .u64 0, .int .u64 0, .int .u64 0, .int .u64 0, .int .u64 0, .bool false, .slice none 0 0, .slice none 0 0] 75 ?hr ?_; (case hr => rfl); intro rb hg1 w5 Br hlb; have Gr := ge_new H4 hg1; clear hg1; have H5 := H4.below hlb; replace Bf := Bf.below hlb; replace Bn := Bn.below hlb; replace Be := Be.below hlb; replace Bs := Bs.below hlb; clear hlb)
  | ((go_at_call 34); (with_reducible refine (frame_calls w _ sb rb l _ hR Br ⟨Gs, A, c, Bs, hr, hc⟩ H5 hb Gr hl).mono ?_); rintro e w6 ⟨hK, hP⟩; obtain ⟨rfl, dv, sv, Br6, O6, R6, S6⟩ := hP))
 have hfs : gf ≠ sb := blk_ne_of Bf Bs (by decide)
 have hfr : gf ≠ rb := blk_ne_of Bf Br (by decide)
 have hns : gn ≠ sb := blk_ne_of Bn Bs (by decide)
 have hnr : gn ≠ rb := blk_ne_of Bn Br (by decide)
 have hes : ge ≠ sb := blk_ne_of Be Bs (by decide)
 have her : ge ≠ rb := blk_ne_of Be Br (by decide)
 have hef : ge ≠ gf := blk_ne_of Be Bf (by decide)
 have hen : ge ≠ gn := blk_ne_of Be Bn (by decide)
 have hnf : gn ≠ gf := blk_ne_of Bn Bf (by decide)
 replace Bf := Bf.kept hK hfs hfr
 replace Bn := Bn.kept hK hns hnr
 replace Be := Be.kept hK hes her
 have H6 := H5.kept hK Gs Gr
 clear hK Bs Br H5 H4 H3 H2 H1
 obtain ⟨hgs, A6, cc6, Bs6, _, _⟩ := S6
 obtain ⟨Ad, cd, rfl⟩ := Kd.R_slice O6.out
 obtain ⟨As, cs, rfl⟩ := Kd.R_slice R6.to
 -- REGION
 refine start_ (n := 18) (S := fun w' => Blk w' rb 75 (cellsR sb K f fin (.slice Ad d.length cd) (.slice As s.length cs)) ∧ Blk w' sb 73 [.slice A6 r.length cc6]) (ds := []) (bs 18 0) (by kernel_rfl) rfl rfl ⟨Br6.drew, Bs6.drew⟩ (fun hHeld => ?_)
 replace Br6 := Br6.drew; replace Bs6 := Bs6.drew; replace Bf := Bf.drew; replace Bn := Bn.drew; replace Be := Be.drew; replace O6 : OW w w6.drew _ _ := O6.below (below_drew1 (Below.refl _ _)); replace R6 := R6.below (below_drew1 (Below.refl _ _)); replace H6 := H6.drew
 generalize World.drew w6 = w6 at *
 refine pure_ (i := 0) (N := some 14) (v := ?_) (a' := ?_) (bs 18 1) rfl rfl (by kernel_rfl) (fun c a w h => hQ17 14 (by decide) _ c a w h) (Or.inl ⟨by rfl, ?_⟩) ?_ ?_
 rotate_left
 ·intro w'
  go_simp
  with_reducible rfl
 rotate_left
 ·simp only [Act.put, qA_, q0_, q1_, i64_w, i32_w]
  rfl
 refine pure_ (i := 1) (N := some 15) (v := ?_) (a' := ?_) (bs 18 3) rfl rfl (by kernel_rfl) (fun c a w h => hQ17 15 (by decide) _ c a w h) (Or.inl ⟨by rfl, ?_⟩) ?_ ?_
 rotate_left
 ·intro w'
  go_simp
  with_reducible rfl
 rotate_left
 ·simp only [Act.put, qA_, q0_, q1_, i64_w, i32_w]
  rfl
 refine pure_ (i := 2) (N := some 16) (v := ?_) (a' := ?_) (bs 18 7) rfl rfl (by kernel_rfl) (fun c a w h => hQ17 16 (by decide) _ c a w h) (Or.inl ⟨by rfl, ?_⟩) ?_ ?_
 rotate_left
 ·intro w'
  go_simp
  with_reducible rfl
 rotate_left
 ·simp only [Act.put, qA_, q0_, q1_, i64_w, i32_w]
  rfl
 refine take_ (i := 3) (N := some 17) (v := .agg #[.int .i64 K, .int .u64 (f 1), .int .u64 (f 2), .int .u64 (f 3), .int .u64 (f 4), .int .u64 (f 5), .int .u64 (f 6), .bool fin, .slice Ad d.length cd, .slice As s.length cs]) (a' := ?_) (bs 18 15) rfl rfl (by kernel_rfl) (fun c a w h => hQ17 17 (by decide) _ c a w h) (Or.inl ⟨by rfl, ?_⟩) hHeld ?_ ?_
 ·intro w' hs
  exact exec_seg_load 27 (.tmp 16) (by rfl) rb 1 [.int .i64 K, .int .u64 (f 1), .int .u64 (f 2), .int .u64 (f 3), .int .u64 (f 4), .int .u64 (f 5), .int .u64 (f 6), .bool fin, .slice Ad d.length cd, .slice As s.length cs] (by rfl) hs.1 (by rfl) Try.underlying27 rfl (by kernel_rfl)
 rotate_left
 ·simp only [Act.put, qA_, q0_, q1_, i64_w, i32_w]
  rfl
 refine pure_ (i := 4) (N := some 18) (v := ?_) (a' := ?_) (bs 18 31) rfl rfl (by kernel_rfl) (fun c a w h => hQ17 18 (by decide) _ c a w h) (Or.inl ⟨by rfl, ?_⟩) ?_ ?_
 rotate_left
 ·intro w'
  go_simp
  with_reducible rfl
 rotate_left
 ·simp only [Act.put, qA_, q0_, q1_, i64_w, i32_w]
  rfl
 refine pure_ (i := 5) (N := some 19) (v := ?_) (a' := ?_) (bs 18 63) rfl rfl (by kernel_rfl) (fun c a w h => hQ17 19 (by decide) _ c a w h) (Or.inl ⟨by rfl, ?_⟩) ?_ ?_
 rotate_left
 ·intro w'
  go_simp
  with_reducible rfl
 rotate_left
 ·simp only [Act.put, qA_, q0_, q1_, i64_w, i32_w]
  rfl
 refine pure_ (i := 6) (N := some 20) (v := ?_) (a' := ?_) (bs 18 127) rfl rfl (by kernel_rfl) (fun c a w h => hQ17 20 (by decide) _ c a w h) (Or.inl ⟨by rfl, ?_⟩) ?_ ?_
 rotate_left
 ·intro w'
  go_simp
  with_reducible rfl
 rotate_left
 ·simp only [Act.put, qA_, q0_, q1_, i64_w, i32_w]
  rfl
 refine pure_ (i := 7) (N := some 21) (v := ?_) (a' := ?_) (bs 18 255) rfl rfl (by kernel_rfl) (fun c a w h => hQ17 21 (by decide) _ c a w h) (Or.inl ⟨by rfl, ?_⟩) ?_ ?_
 rotate_left
 ·intro w'
  go_simp
  with_reducible rfl
 rotate_left
 ·simp only [Act.put, qA_, q0_, q1_, i64_w, i32_w]
  rfl
 refine pure_ (i := 8) (N := some 22) (v := ?_) (a' := ?_) (bs 18 511) rfl rfl (by kernel_rfl) (fun c a w h => hQ17 22 (by decide) _ c a w h) (Or.inl ⟨by rfl, ?_⟩) ?_ ?_
 rotate_left
 ·intro w'
  go_simp
  with_reducible rfl
 rotate_left
 ·simp only [Act.put, qA_, q0_, q1_, i64_w, i32_w]
  rfl
 refine take_ (i := 9) (N := some 23) (v := ?_) (a' := ?_) (bs 18 1023) rfl rfl (by kernel_rfl) (fun c a w h => hQ17 23 (by decide) _ c a w h) (Or.inl ⟨by rfl, ?_⟩) hHeld ?_ ?_
 rotate_left
 ·intro w' hs
  have s0 := hs.1.at 0 rfl
  have s1 := hs.2.at 0 rfl
  go_simp
  with_reducible rfl
 rotate_left
 ·simp only [Act.put, qA_, q0_, q1_, i64_w, i32_w]
  rfl
 refine pure_ (i := 10) (N := some 24) (v := ?_) (a' := ?_) (bs 18 2047) rfl rfl (by kernel_rfl) (fun c a w h => hQ17 24 (by decide) _ c a w h) (Or.inl ⟨by rfl, ?_⟩) ?_ ?_
 rotate_left
 ·intro w'
  go_simp
  with_reducible rfl
 rotate_left
 ·simp only [Act.put, qA_, q0_, q1_, i64_w, i32_w]
  rfl
 refine pure_ (i := 11) (N := some 25) (v := ?_) (a' := ?_) (bs 18 4095) rfl rfl (by kernel_rfl) (fun c a w h => hQ17 25 (by decide) _ c a w h) (Or.inl ⟨by rfl, ?_⟩) ?_ ?_
 rotate_left
 ·intro w'
  go_simp
  with_reducible rfl
 rotate_left
 ·simp only [Act.put, qA_, q0_, q1_, i64_w, i32_w]
  rfl
 refine take_ (i := 12) (N := some 26) (v := ?_) (a' := ?_) (bs 18 8191) rfl rfl (by kernel_rfl) (fun c a w h => hQ17 26 (by decide) _ c a w h) (Or.inl ⟨by rfl, ?_⟩) hHeld ?_ ?_
 rotate_left
 ·intro w' hs
  have s0 := hs.1.at 0 rfl
  have s1 := hs.2.at 0 rfl
  go_simp
  with_reducible rfl
 rotate_left
 ·simp only [Act.put, qA_, q0_, q1_, i64_w, i32_w]
  rfl
 refine pure_ (i := 13) (N := some 27) (v := ?_) (a' := ?_) (bs 18 16383) rfl rfl (by kernel_rfl) (fun c a w h => hQ17 27 (by decide) _ c a w h) (Or.inl ⟨by rfl, ?_⟩) ?_ ?_
 rotate_left
 ·intro w'
  go_simp
  with_reducible rfl
 rotate_left
 ·simp only [Act.put, qA_, q0_, q1_, i64_w, i32_w]
  rfl
 refine pure_ (i := 14) (N := some 28) (v := ?_) (a' := ?_) (bs 18 32767) rfl rfl (by kernel_rfl) (fun c a w h => hQ17 28 (by decide) _ c a w h) (Or.inl ⟨by rfl, ?_⟩) ?_ ?_
 rotate_left
 ·intro w'
  go_simp
  with_reducible rfl
 rotate_left
 ·simp only [Act.put, qA_, q0_, q1_, i64_w, i32_w]
  rfl
 refine one_ (i := 15) (N := none) (bs 18 65535) rfl rfl (by kernel_rfl) (by decide) (fun K' hK => ?_)
 refine skip_seg (by rfl) rfl 27 (.tmp 2) (.tmp 17) rfl gf 0 [.int .i64 K, .int .u64 (f 1), .int .u64 (f 2), .int .u64 (f 3), .int .u64 (f 4), .int .u64 (f 5), .int .u64 (f 6), .bool fin, .slice Ad d.length cd, .slice As s.length cs] [.int .i64 K, .int .u64 (f 1), .int .u64 (f 2), .int .u64 (f 3), .int .u64 (f 4), .int .u64 (f 5), .int .u64 (f 6), .bool fin, .slice Ad d.length cd, .slice As s.length cs] _ rfl rfl rfl Bf (by kernel_rfl) (nle rfl) rfl rfl ?_
 intro w7 Bf7 hg7
 have Br7 := Br6.grown hg7 hfr.symm; have Bs7 := Bs6.grown hg7 hfs.symm; have Bn7 := Bn.grown hg7 hnf; have Be7 := Be.grown hg7 hef; have O7 := O6.grown Bf (by decide) hg7; have R7 := R6.grown Bf (by decide) hg7; have H7 := H6.grown hg7 Gf
 refine hK.out _ _ ⟨Br7, Bs7⟩ (fun hHeld => ?_)
 clear hK Br6 Bs6 Bf Bn Be O6 R6 H6 hg7
 have c2 := Bn7.at 0 rfl; have f2 := Bn7.frozen 0
 refine one_ (i := 16) (N := none) (bs 18 131071) rfl rfl (by kernel_rfl) (by decide) (fun K' hK => ?_)
 refine skip_ (w1 := World.setCell w7 ⟨gn, 0, none⟩ (.int .i64 ((l.length : Int) - (r.length : Int)))) (by rfl) rfl (by first | (go_simp; done) | (go_simp; rfl)) ?_
 refine hK.out _ _ ⟨Br7.setFar hnr.symm, Bs7.setFar hns.symm⟩ (fun hHeld => ?_)
 have Br8 := Br7.setFar (i := 0) (u := .int .i64 ((l.length : Int) - (r.length : Int))) hnr.symm; have Bs8 := Bs7.setFar (i := 0) (u := .int .i64 ((l.length : Int) - (r.length : Int))) hns.symm; have Bn8 := Bn7.set 0 (.int .i64 ((l.length : Int) - (r.length : Int))) rfl; have Bf8 := Bf7.setFar (i := 0) (u := .int .i64 ((l.length : Int) - (r.length : Int))) hnf.symm; have Be8 := Be7.setFar (i := 0) (u := .int .i64 ((l.length : Int) - (r.length : Int))) hen; have O8 := O7.set Bn7 (by decide) 0 (.int .i64 ((l.length : Int) - (r.length : Int))); have R8 := R7.setFar (i := 0) (u := .int .i64 ((l.length : Int) - (r.length : Int))) Bn7 (by decide); have H8 := H7.set (i := 0) (u := .int .i64 ((l.length : Int) - (r.length : Int))) Gn
 clear hK Br7 Bs7 Bf7 Bn7 Be7 O7 R7 H7 c2 f2
 generalize World.setCell w7 ⟨gn, 0, none⟩ (.int .i64 ((l.length : Int) - (r.length : Int))) = w8 at *
 have c3 := Be8.at 0 rfl; have f3 := Be8.frozen 0
 refine one_ (i := 17) (N := none) (bs 18 262143) rfl rfl (by kernel_rfl) (by decide) (fun K' hK => ?_)
 refine skip_ (w1 := World.setCell w8 ⟨ge, 0, none⟩ (.int .i64 0)) (by rfl) rfl (by first | (go_simp; done) | (go_simp; rfl)) ?_
 refine hK.out _ _ ⟨Br8.setFar her.symm, Bs8.setFar hes.symm⟩ (fun hHeld => ?_)
 have Bn9 := Bn8.setFar (i := 0) (u := .int .i64 0) hen.symm; have Bf9 := Bf8.setFar (i := 0) (u := .int .i64 0) hef.symm; have Be9 := Be8.set 0 (.int .i64 0) rfl; have O9 := O8.set Be8 (by decide) 0 (.int .i64 0); have R9 := R8.setFar (i := 0) (u := .int .i64 0) Be8 (by decide); have H9 := H8.set (i := 0) (u := .int .i64 0) Ge
 clear hK Br8 Bs8 Bf8 Bn8 Be8 O8 R8 H8 c3 f3
 generalize World.setCell w8 ⟨ge, 0, none⟩ (.int .i64 0) = w9 at *
 refine done_ (by kernel_rfl) ?_
 go_wp2
 refine leaves_cons (f := 32) (args := #[.pointer (some ⟨ge, 0, none⟩), .pointer (some ⟨gf, 0, none⟩), .pointer (some ⟨gn, 0, none⟩)]) (by simp) (by simp [go_sem]) ?_
 refine (clos_idle ge gf gn 0 w9 Be9).mono ?_
 rintro e u' w10 ⟨rfl, rfl, rfl⟩
 have Bn10 := Bn9.setFar (i := 0) (u := .int .i64 0) hen.symm; have Bf10 := Bf9.setFar (i := 0) (u := .int .i64 0) hef.symm; have Be10 := Be9.set 0 (.int .i64 0) rfl; have O10 := O9.set Be9 (by decide) 0 (.int .i64 0); have R10 := R9.setFar (i := 0) (u := .int .i64 0) Be9 (by decide); have H10 := H9.set (i := 0) (u := .int .i64 0) Ge
 generalize World.setCell w9 ⟨ge, 0, none⟩ (.int .i64 0) = w10 at *
 have d0 := Bf10.at 0 rfl; have d1 := Bf10.at 1 rfl; have d2 := Bf10.at 2 rfl; have d3 := Bf10.at 3 rfl; have d4 := Bf10.at 4 rfl; have d5 := Bf10.at 5 rfl; have d6 := Bf10.at 6 rfl; have d7 := Bf10.at 7 rfl; have d8 := Bf10.at 8 rfl; have d9 := Bf10.at 9 rfl
 have c1 := Be10.at 0 rfl
 have c2 := Bn10.at 0 rfl
 simp [Leaves, settle, results, Try.func17, go_sem, c1, c2, d0, d1, d2, d3, d4, d5, d6, d7, d8, d9]
 exact ⟨_, _, ⟨rfl, rfl⟩, O10, R10, H10⟩
theorem uNum_suffix {l l' : List Int} {v : Int} (hb : bytesOk l = true) (h : uNum l = some (v, l')) : l' <:+ l ∧ l'.length < l.length ∧ bytesOk l' = true := by
 obtain ⟨_, h1, h2, h3, _⟩ := uNum_some hb h
 exact ⟨h3 ▸ List.drop_suffix _ _, h2, h1⟩
theorem rRounds_suffix : ∀ (k : Nat) (tp : Int) (s : List S47) (l : List Int) {s' : List S47} {l' : List Int}, bytesOk l = true → rRounds k tp s l = some (s', l') → l' <:+ l
 | 0, tp, s, l, s', l', hb, h => by
  simp only [rRounds, Option.some.injEq, Prod.mk.injEq] at h
  obtain ⟨rfl, rfl⟩ := h
  exact List.suffix_refl _
 | k + 1, tp, [], l, s', l', hb, h => by
  unfold rRounds at h
  cases hN : uNum l with
  | none => rw [hN] at h; cases h
  | some r =>
   rw [hN, Option.bind_some] at h
   obtain ⟨v, l1⟩ := r
   obtain ⟨hs, _, hb1⟩ := uNum_suffix hb hN
   split at h
   ·exact (rRounds_suffix k _ _ l1 hb1 h).trans hs
   ·cases h
 | k + 1, tp, x :: s, l, s', l', hb, h => by
  unfold rRounds at h
  cases hN : uNum l with
  | none => rw [hN] at h; cases h
  | some r =>
   rw [hN, Option.bind_some] at h
   obtain ⟨v, l1⟩ := r
   obtain ⟨hs, _, hb1⟩ := uNum_suffix hb hN
   split at h
   ·cases hN1 : uNum l1 with
    | none => rw [hN1] at h; cases h
    | some r =>
     rw [hN1, Option.bind_some] at h
     obtain ⟨v, l2⟩ := r
     obtain ⟨hs1, _, hb2⟩ := uNum_suffix hb1 hN1
     split at h
     ·exact ((rRounds_suffix k _ _ l2 hb2 h).trans hs1).trans hs
     ·cases h
   ·cases h
theorem rSp_suffix {l l' : List Int} {s : List S47} (hb : bytesOk l = true) (h : rSp l = some (s, l')) : l' <:+ l ∧ bytesOk l' = true := by
 refine ⟨?_, (rSp_len hb h).2.1⟩
 unfold rSp at h
 cases hN : uNum l with
 | none => rw [hN] at h; cases h
 | some r =>
  rw [hN, Option.bind_some] at h
  obtain ⟨v, l1⟩ := r
  obtain ⟨hs, _, hb1⟩ := uNum_suffix hb hN
  split at h
  ·cases hN1 : uNum l1 with
   | none => rw [hN1] at h; cases h
   | some r =>
    rw [hN1, Option.bind_some] at h
    obtain ⟨v, l2⟩ := r
    obtain ⟨hs1, _, hb2⟩ := uNum_suffix hb1 hN1
    exact ((rRounds_suffix _ _ _ _ hb2 h).trans hs1).trans hs
  ·cases h
theorem rNums_suffix : ∀ (os : List Nat) (f : Nat → Int) (l : List Int) {f' : Nat → Int} {l' : List Int}, bytesOk l = true → rNums os f l = some (f', l') → l' <:+ l ∧ bytesOk l' = true
 | [], f, l, f', l', hb, h => by
  simp only [rNums, Option.some.injEq, Prod.mk.injEq] at h
  obtain ⟨rfl, rfl⟩ := h
  exact ⟨List.suffix_refl _, hb⟩
 | o :: os, f, l, f', l', hb, h => by
  unfold rNums at h
  cases hN : uNum l with
  | none => rw [hN] at h; cases h
  | some r =>
   rw [hN, Option.bind_some] at h
   obtain ⟨v, l1⟩ := r
   obtain ⟨hs, _, hb1⟩ := uNum_suffix hb hN
   obtain ⟨h1, h2⟩ := rNums_suffix os _ l1 hb1 h
   exact ⟨h1.trans hs, h2⟩
theorem rChk_some {K : Int} {fin : Bool} {s : List S47} {f : Nat → Int} {d l : List Int} {x : FrV} (h : rChk K fin s f d l = some x) : uChk K (f 1) (f 2) (f 3) (f 4) (f 5) (f 6) fin d.length s = 0 ∧ x = (K, f, fin, d, s, l) := by
 unfold rChk at h
 split at h
 ·exact ⟨by assumption, (Option.some.inj h).symm⟩
 ·cases h
theorem rEnd_suffix {K K' : Int} {fin fin' : Bool} {s s' : List S47} {f f' : Nat → Int} {l d r : List Int} (hb : bytesOk l = true) (h : rEnd K fin s f l = some (K', f', fin', d, s', r)) : r <:+ l ∧ bytesOk r = true := by
 unfold rEnd at h
 split at h
 ·cases hN : uNum l with
  | none => rw [hN] at h; cases h
  | some q =>
   rw [hN, Option.bind_some] at h
   obtain ⟨v, l1⟩ := q
   obtain ⟨hs, _, hb1⟩ := uNum_suffix hb hN
   split at h
   ·obtain ⟨_, e⟩ := rChk_some h
    simp only [Prod.mk.injEq] at e
    obtain ⟨-, -, -, -, -, rfl⟩ := e
    exact ⟨(List.drop_suffix _ _).trans hs, bytes_drop hb1 _⟩
   ·cases h
 ·obtain ⟨_, e⟩ := rChk_some h
  simp only [Prod.mk.injEq] at e
  obtain ⟨-, -, -, -, -, rfl⟩ := e
  exact ⟨List.suffix_refl _, hb⟩
theorem rKind_suffix {K K' : Int} {fin fin' : Bool} {s' : List S47} {f' : Nat → Int} {l d r : List Int} (hb : bytesOk l = true) (h : rKind K fin l = some (K', f', fin', d, s', r)) : r <:+ l ∧ bytesOk r = true := by
 unfold rKind at h
 split at h
 ·cases h
 ·rename_i os ho
  split at h
  ·cases hs : rSp l with
   | none => rw [hs] at h; cases h
   | some q =>
    obtain ⟨s, l1⟩ := q
    rw [hs, Option.bind_some] at h
    obtain ⟨h1, hb1⟩ := rSp_suffix hb hs
    cases hn : rNums os (fun _ => 0) l1 with
    | none => simp only [hn] at h; cases h
    | some q =>
     obtain ⟨f1, l2⟩ := q
     simp only [hn, Option.bind_some] at h
     obtain ⟨h2, hb2⟩ := rNums_suffix _ _ _ hb1 hn
     obtain ⟨h3, hb3⟩ := rEnd_suffix hb2 h
     exact ⟨(h3.trans h2).trans h1, hb3⟩
  ·cases hn : rNums os (fun _ => 0) l with
   | none => rw [hn] at h; cases h
   | some q =>
    obtain ⟨f1, l2⟩ := q
    rw [hn, Option.bind_some] at h
    obtain ⟨h2, hb2⟩ := rNums_suffix _ _ _ hb hn
    obtain ⟨h3, hb3⟩ := rEnd_suffix hb2 h
    exact ⟨h3.trans h2, hb3⟩
theorem rFr_suffix {K' : Int} {fin' : Bool} {s' : List S47} {f' : Nat → Int} {l d r : List Int} (hb : bytesOk l = true) (h : rFr l = some (K', f', fin', d, s', r)) : r <:+ l ∧ bytesOk r = true ∧ r.length < l.length := by
 unfold rFr at h
 cases hN : uNum l with
 | none => rw [hN] at h; cases h
 | some q =>
  rw [hN, Option.bind_some] at h
  obtain ⟨v, l1⟩ := q
  obtain ⟨hs, hlt, hb1⟩ := uNum_suffix hb hN
  have : r <:+ l1 ∧ bytesOk r = true := by
   split at h
   ·split at h
    ·exact rKind_suffix hb1 h
    ·exact rKind_suffix hb1 h
   ·cases h
  exact ⟨this.1.trans hs, this.2, by have := this.1.length_le; omega⟩
end Go.Proofs.Ytphakdfholkbdaa
end
