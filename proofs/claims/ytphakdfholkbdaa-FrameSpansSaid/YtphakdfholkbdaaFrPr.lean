import Derived.Outline
import Derived.Handy
import Derived.Recover
import Derived.WalkSmall
import Derived.Laws.Externs
import Derived.Laws.CopyOwn
import Derived.Lib.AppendZerosOnto
import Derived.Lib.Overlaps
import Derived.Deep.RegionLaw
import Derived.Test.YtphakdfholkbdaaPFrax0
import Derived.Test.YtphakdfholkbdaaNum
import Derived.Test.YtphakdfholkbdaaSeg
import Derived.Test.YtphakdfholkbdaaFraB
import Derived.Test.YtphakdfholkbdaaFrPi
import Derived.Test.YtphakdfholkbdaaFrPf
import Derived.Test.YtphakdfholkbdaaFrPs
namespace Go.Proofs.Ytphakdfholkbdaa
open Go.Proofs.Ytphakdfholkbdaa.PFra Go.RowKit Go.Proofs.YtphakdfholkbdaaW.PrintWords Go.Proofs.YtphakdfholkbdaaW.PrintLast Go.Proofs.YtphakdfholkbdaaW.PrintMore
set_option maxRecDepth 100000
set_option maxHeartbeats 4000000
set_option linter.unusedVariables false
set_option linter.unusedSimpArgs false
def FrP (w0 : World) (sb rb : Nat) : Option FrV → Ending → World → Prop
  | none, e, _ => Gave e
  | some (K, f, fin, d, s, l), e, w' => e = .returned (.tuple #[]) ∧ ∃ dv sv, Blk w' rb 75 (cellsR sb K f fin dv sv) ∧ OW w0 w' dv d ∧ SR w0.heap.size w' sv s ∧ Src w0 w' sb l
theorem PR.turnedS {w0 w w1 : World} {A : Option Addr} {g sb : Nat} {os : List Nat} {bs : List Int} (h : PR w A g os) (hS : Src w0 w sb bs) (hT : Turned sb w w1) : PR w1 A g os := fun hn => let ⟨b, e, B⟩ := h hn; ⟨b, e, B.turned hT (hS.ne B (by decide))⟩
theorem PR.setR {w : World} {A : Option Addr} {g k i : Nat} {os : List Nat} {l : List Value} {u : Value} (h : PR w A g os) (hk : Blk w k 75 l) : PR (w.setCell ⟨k, i, none⟩ u) A g os := fun hn => let ⟨b, e, B⟩ := h hn; ⟨b, e, B.setFar (blk_ne_of B hk (by decide))⟩
theorem PR.kept {w w1 : World} {A : Option Addr} {g sb rb : Nat} {os : List Nat} {bs : List Int} {w0 : World} {l : List Value} (h : PR w A g os) (hS : Src w0 w sb bs) (hR : Blk w rb 75 l) (hk : Kept2 sb rb w w1) : PR w1 A g os := fun hn => let ⟨b, e, B⟩ := h hn; ⟨b, e, ⟨(hk.block b B.lt (hS.ne B (by decide)) (blk_ne_of B hR (by decide))).trans B.out⟩⟩
theorem qA_ {α : Type} {l : List α} {i : Nat} {a : α} : l.toArray.setIfInBounds i a = (l.set i a).toArray := List.setIfInBounds_toArray ..
theorem q0_ {α : Type} {x a : α} {l : List α} : (x :: l).set 0 a = a :: l := List.set_cons_zero ..
theorem q1_ {α : Type} {n : Nat} {x a : α} {l : List α} : (x :: l).set (n + 1) a = x :: l.set n a := List.set_cons_succ ..
section
variable {P : Program} {ops : Array Oper} {Q : Exit → Act → World → Prop}
/-- A call of a Go function that panics. -/
theorem goesP_ {oi : Oper} {N : Option Tmp} {a : Act} {w : World} {K : Act → World → Prop} {f : FuncId} {fn : Func} {ars : Array Operand} {ts : Array TypeId} (hf : P.funcs[f]? = some fn) (hname : (fn.name == "runtime.NumGoroutine") = false) (hb : fn.body.isSome = true) (args : Array Value)
    (hw : Region.wanted oi (yielded ops a.tmps) = true) (hN : oi.dst = N) (hop : oi.op = .call { callee := .value (.func f), args := ars, argTypes := ts }) (hargs : ars.map a.eval = args) (ch : List PanicEntry)
    (h : Calls P f args w fun e w' => e = .panicked ch ∧ Q (.panic ch) a w') : if Region.wanted oi (yielded ops a.tmps) = true then Oper.wp P oi a w K Q else K (a.put N undef) w := by
  have he := enters_ hf hname hb args w
  have hrun : (execOp a.eval oi).run P w = .ok (.enter f args) w := by
    unfold execOp
    simp [hop, resolve, Deferred.ofValue, invoke, Act.eval, hargs, he]
  rw [if_pos hw]
  unfold Oper.wp
  rw [hrun, Oper.upon_enter]
  refine h.mono fun e w'' hh => ?_
  obtain ⟨rfl, hq⟩ := hh
  exact hq
end
theorem fr_none (w0 w : World) (sb rb : Nat) (l : List Int) (B0 : Blk w rb 75 [.pointer (some ⟨sb, 0, none⟩), .int .i64 0, .int .u64 0, .int .u64 0, .int .u64 0, .int .u64 0, .int .u64 0, .int .u64 0, .bool false, .slice none 0 0, .slice none 0 0]) (S0 : Src w0 w sb l) (H0 : Since w0 w) (hb0 : bytesOk l = true) (hrb : w0.heap.size ≤ rb) (hl : l.length < 1000000) (R : Option FrV) (hR : R = none) (hN : uNum l = none) :
    Calls Try.prog 34 #[.pointer (some ⟨rb, 0, none⟩)] w fun e w' => Kept2 sb rb w w' ∧ FrP w0 sb rb R e w' := by
  have hu := Try.underlying75
  have hu2 := Try.underlying27
  have hrs : rb ≠ sb := S0.ne B0 (by decide)
  have hsb := S0.ge
  have K0 := Kept2.refl sb rb w
  have hwb := H0.le
  have c0 := B0.at 0 rfl
  subst hR
  go_enter Try.func34, Try.ntmps34
  go_wp2_with (first | ((go_at_call 41); (with_reducible refine (number_calls w0 _ sb l S0 H0 hb0).mono ?_); rintro e w1 ⟨hT, hP⟩; rw [hN] at hP; have hP : Gave e := hP; unfold Gave at hP; subst hP))
  exact ⟨rfl, K0.one hT, rfl⟩
theorem fr_big (w0 w : World) (sb rb : Nat) (l : List Int) (B0 : Blk w rb 75 [.pointer (some ⟨sb, 0, none⟩), .int .i64 0, .int .u64 0, .int .u64 0, .int .u64 0, .int .u64 0, .int .u64 0, .int .u64 0, .bool false, .slice none 0 0, .slice none 0 0]) (S0 : Src w0 w sb l) (H0 : Since w0 w) (hb0 : bytesOk l = true) (hrb : w0.heap.size ≤ rb) (hl : l.length < 1000000) (R : Option FrV) (hR : R = none) (n : Int) (l1 : List Int) (hN : uNum l = some (n, l1)) (hd : decide (n ≤ 30) = false) :
    Calls Try.prog 34 #[.pointer (some ⟨rb, 0, none⟩)] w fun e w' => Kept2 sb rb w w' ∧ FrP w0 sb rb R e w' := by
  have hu := Try.underlying75
  have hu2 := Try.underlying27
  have hrs : rb ≠ sb := S0.ne B0 (by decide)
  have hsb := S0.ge
  have K0 := Kept2.refl sb rb w
  have hwb := H0.le
  have c0 := B0.at 0 rfl
  subst hR
  go_enter Try.func34, Try.ntmps34
  go_wp2_with (first | ((go_at_call 41); (with_reducible refine (number_calls w0 _ sb l S0 H0 hb0).mono ?_); rintro e w1 ⟨hT, hP⟩; rw [hN] at hP; obtain ⟨rfl, S1⟩ := hP; have B1 := B0.turned hT hrs; have c0 := B1.at 0 rfl; have c1 := B1.at 1 rfl; have f1 := B1.frozen 1; have f8 := B1.frozen 8; have H1 := H0.kept ((Kept2.refl sb rb _).one hT) hsb hrb; have K1 := K0.one hT; clear hT) | ((go_at_call 42); with_reducible refine (needs_f _).mono ?_; rintro e w' ⟨rfl, rfl⟩))
  exact ⟨rfl, K1, rfl⟩
theorem fr_no (w0 w : World) (sb rb : Nat) (l : List Int) (B0 : Blk w rb 75 [.pointer (some ⟨sb, 0, none⟩), .int .i64 0, .int .u64 0, .int .u64 0, .int .u64 0, .int .u64 0, .int .u64 0, .int .u64 0, .bool false, .slice none 0 0, .slice none 0 0]) (S0 : Src w0 w sb l) (H0 : Since w0 w) (hb0 : bytesOk l = true) (hrb : w0.heap.size ≤ rb) (hl : l.length < 1000000) (R : Option FrV) (hR : R = none) (n : Int) (l1 : List Int) (hN : uNum l = some (n, l1)) (hd : decide (n ≤ 30) = true) (h15 : (n == 15) = false) (hw : IntKind.i64.wrap n = n) (ho : fOffs n = none) :
    Calls Try.prog 34 #[.pointer (some ⟨rb, 0, none⟩)] w fun e w' => Kept2 sb rb w w' ∧ FrP w0 sb rb R e w' := by
  have hu := Try.underlying75
  have hu2 := Try.underlying27
  have hrs : rb ≠ sb := S0.ne B0 (by decide)
  have hsb := S0.ge
  have K0 := Kept2.refl sb rb w
  have hwb := H0.le
  have c0 := B0.at 0 rfl
  subst hR
  go_enter Try.func34, Try.ntmps34
  go_wp2_with (first | ((go_at_call 41); (with_reducible refine (number_calls w0 _ sb l S0 H0 hb0).mono ?_); rintro e w1 ⟨hT, hP⟩; rw [hN] at hP; obtain ⟨rfl, S1⟩ := hP; have B1 := B0.turned hT hrs; have c0 := B1.at 0 rfl; have c1 := B1.at 1 rfl; have f1 := B1.frozen 1; have f8 := B1.frozen 8; have H1 := H0.kept ((Kept2.refl sb rb _).one hT) hsb hrb; have K1 := K0.one hT; clear hT) | ((go_at_call 26); (with_reducible refine (dfields_no n rb _ ((B1.set 1 (.int .i64 n) rfl).at 1 rfl) ho).mono ?_); rintro e w' ⟨rfl, rfl⟩) | ((go_at_call 42); first | ((with_reducible refine (needs_t _).mono ?_); rintro e w' ⟨rfl, rfl⟩) | ((with_reducible refine (needs_f _).mono ?_); rintro e w' ⟨rfl, rfl⟩)))
  exact ⟨rfl, K1.set, rfl⟩
theorem fr_any (w0 w : World) (sb rb : Nat) (l : List Int) (B0 : Blk w rb 75 [.pointer (some ⟨sb, 0, none⟩), .int .i64 0, .int .u64 0, .int .u64 0, .int .u64 0, .int .u64 0, .int .u64 0, .int .u64 0, .bool false, .slice none 0 0, .slice none 0 0]) (S0 : Src w0 w sb l) (H0 : Since w0 w) (hb0 : bytesOk l = true) (hrb : w0.heap.size ≤ rb) (hl : l.length < 1000000) (R : Option FrV) (n : Int) (l1 : List Int) (hN : uNum l = some (n, l1)) (hd : decide (n ≤ 30) = true) (h15 : (n == 15) = false) (hw : IntKind.i64.wrap n = n) (os : List Nat) (ho : fOffs n = some os) (h2 : (n == 2) = false) (h3 : (n == 3) = false) (hRR : Aside0 (((rNums os (fun _ => 0) l1).bind fun q => rEnd n false [] q.1 q.2) = R)) :
    Calls Try.prog 34 #[.pointer (some ⟨rb, 0, none⟩)] w fun e w' => Kept2 sb rb w w' ∧ FrP w0 sb rb R e w' := by
  have hu := Try.underlying75
  have hu2 := Try.underlying27
  have hrs : rb ≠ sb := S0.ne B0 (by decide)
  have hsb := S0.ge
  have K0 := Kept2.refl sb rb w
  have hwb := H0.le
  have c0 := B0.at 0 rfl
  obtain ⟨-, hb1, hl1', -, -, -, -⟩ := uNum_some hb0 hN
  obtain ⟨hm, hol⟩ := fOffs_mem ho
  have hl2 : l1.length < 1000000 := by omega
  have hb2 := hb1
  clear hl1'
  go_enter Try.func34, Try.ntmps34
  go_wp2_with (first | ((go_at_call 41); (with_reducible refine (number_calls w0 _ sb l S0 H0 hb0).mono ?_); rintro e w1 ⟨hT, hP⟩; rw [hN] at hP; obtain ⟨rfl, S1⟩ := hP; have B1 := B0.turned hT hrs; have c0 := B1.at 0 rfl; have c1 := B1.at 1 rfl; have f1 := B1.frozen 1; have f8 := B1.frozen 8; have H1 := H0.kept ((Kept2.refl sb rb _).one hT) hsb hrb; have K1 := K0.one hT; clear hT) | ((go_at_call 42); with_reducible refine (needs_t _).mono ?_; rintro e w' ⟨rfl, rfl⟩) | ((go_at_call 26); (with_reducible refine (dfieldsC n rb os _ ((B1.set 1 (.int .i64 n) rfl).at 1 rfl) ho).mono ?_); rintro e w2 ⟨A, rfl, P2, hlb⟩; have B2 := (B1.set 1 (.int .i64 n) rfl).below hlb; have c0 := B2.at 0 rfl; have c1 := B2.at 1 rfl; have S2 := (S1.setFar hrs.symm).below hlb; have H2 := (H1.set hrb).below hlb; have K2 := (K1.set).below hlb; clear hlb))
  have R2 := SR.nil w0.heap.size w2
  replace B2 : Blk w2 rb 75 (cellsR sb n (fun _ => 0) false (.slice none 0 0) (.slice none 0 0)) := B2
  clear S1 B1 H1 K1
  go_loopw [58] (fun i wr => ∃ (q : Nat) (f : Nat → Int) (lq : List Int), i = .int .i64 q ∧ q ≤ (os).length ∧ ((rNums ((os).drop q) f lq).bind fun r => rEnd n false ([] : List S47) r.1 r.2) = R ∧ Small f ∧ bytesOk lq = true ∧ lq.length < 1000000 ∧ Blk wr rb 75 (cellsR sb n f false (.slice none 0 0) (.slice none 0 0)) ∧ PR wr A rb ((os).map (· + 1)) ∧ SR w0.heap.size wr (.slice none 0 0) ([] : List S47) ∧ Src w0 wr sb lq ∧ Since w0 wr ∧ Kept2 sb rb w wr) (fun i _ => (os).length - (intOf i).toNat)
  case atStart => exact ⟨0, fun _ => 0, l1, rfl, Nat.zero_le _, hRR.out, Small.zero, hb2, hl2, B2, P2, R2, S2, H2, K2⟩
  case round =>
    clear hRR hb2 B2 P2 R2 S2 H2 K2
    obtain ⟨q, f, lq, rfl, hq, hRR, hf, hbQ, hlq, BQ, PQ, RQ, SQ, HQ, KQ⟩ := hrel
    have c0 := BQ.at 0 rfl
    by_cases hlt : q < (os).length
    · obtain ⟨o, hoq⟩ : ∃ o, (os)[q]? = some o := ⟨_, List.getElem?_eq_getElem hlt⟩
      have hmo := hm o (List.mem_of_getElem? hoq)
      have hne : (os).map (· + 1) ≠ [] := by intro e; rw [List.map_eq_nil_iff] at e; rw [e] at hlt; simp at hlt
      obtain ⟨b, rfl, BP⟩ := PQ hne
      have k1 : wr.cell? ⟨b, q, none⟩ = some (.pointer (some ⟨rb, o + 1, none⟩)) := (BP.cell q).trans (by rw [List.getElem?_map, List.getElem?_map, hoq]; rfl)
      have hdr : (os).drop q = o :: (os).drop (q + 1) := by
        rw [List.drop_eq_getElem_cons hlt]
        congr 1
        exact Option.some.inj ((List.getElem?_eq_getElem hlt).symm.trans hoq)
      rw [hdr, rNums] at hRR
      have dlt : decide ((q : Int) < ((os).length : Int)) = true := decide_eq_true (by omega)
      have hq1 : q + 1 ≤ (os).length := hlt
      have hqb : q < 1000 := by omega
      have hq2 : (q : Int) < (os).length := by omega
      clear hdr hoq hne BP hq
      cases hN2 : uNum lq with
      | none =>
        obtain rfl : R = none := by rw [← hRR, hN2]; rfl
        clear hRR
        go_wp2_with (first | ((go_at_call 41); (with_reducible refine (number_calls w0 _ sb lq SQ HQ hbQ).mono ?_); rintro e w3 ⟨hT, hP⟩; rw [hN2] at hP; have hP : Gave e := hP; unfold Gave at hP; subst hP))
        exact ⟨rfl, KQ.one hT, rfl⟩
      | some r =>
        obtain ⟨v, l3⟩ := r
        obtain ⟨hv, hb3, hl3, -, -, -, -⟩ := uNum_some hbQ hN2
        rw [hN2] at hRR
        simp only [Option.bind_some] at hRR
        have hRR := Aside0.mk hRR
        go_wp2_with (first | ((go_at_call 41); (with_reducible refine (number_calls w0 _ sb lq SQ HQ hbQ).mono ?_); rintro e w3 ⟨hT, hP⟩; rw [hN2] at hP; obtain ⟨rfl, S3⟩ := hP; have B3 := BQ.turned hT hrs; have c0 := B3.at 0 rfl; have c1 := B3.at 1 rfl; have f1 := B3.frozen 1; have f8 := B3.frozen 8; have H3 := HQ.kept ((Kept2.refl sb rb _).one hT) hsb hrb; have K3 := KQ.one hT; have co := (B3.cell (o + 1)).trans (cellsR_at sb n f false (.slice none 0 0) (.slice none 0 0) o hmo.1 hmo.2); have fo := B3.frozen (o + 1); have R3 := RQ.turnedS SQ hT; have P3 := PR.turnedS PQ SQ hT; clear hT))
        go_roundw
        case rel => exact ⟨q + 1, upd f o v, l3, by go_num, hq1, hRR.out, hf.upd hv o, hb3, by omega, B3.set (o + 1) _ (cellsR_set _ _ _ _ _ _ o v hmo.1 hmo.2), PR.setR P3 B3, R3.setFar B3 (by decide), S3.setFar hrs.symm, H3.set hrb, K3.set⟩
        case measure => simp [intOf]; omega
    · obtain rfl : q = (os).length := by omega
      rw [List.drop_length, rNums, Option.bind_some] at hRR
      have dlt : decide (((os).length : Int) < ((os).length : Int)) = false := decide_eq_false (by omega)
      have c1 := BQ.at 1 rfl
      have f9 := BQ.frozen 9
      have c9_ := BQ.at 9 rfl
      by_cases h14 : n = 14
      · have e14 : (n == 14) = true := by simp [h14]
        unfold rEnd at hRR
        rw [if_pos h14] at hRR
        clear h14
        cases hN2 : uNum lq with
        | none =>
          obtain rfl : R = none := by rw [← hRR, hN2]; rfl
          clear hRR
          go_wp2
          have h0 := c0
          clear c0 c1 f9 c9_
          refine start_ (n := 15) (S := fun w' => w'.cell? ⟨rb, 0, none⟩ = some (.pointer (some ⟨sb, 0, none⟩))) (ds := [14]) (bs 15 0) (by kernel_rfl) rfl rfl (BQ.drew.at 0 rfl) (fun hHeld => ?_)
          replace BQ := BQ.drew; replace SQ := SQ.drew; replace RQ := (RQ.below (below_drew1 (Below.refl _ _))); replace HQ := HQ.drew; replace KQ := KQ.drew
          generalize World.drew wr = wr at *
          refine pure_ (i := 0) (N := some 76) (v := ?_) (a' := ?_) (bs 15 1) rfl rfl (by kernel_rfl) (fun _ _ _ h => h) (Or.inl ⟨by rfl, ?_⟩) ?_ ?_
          rotate_left
          · intro w'
            go_simp
            with_reducible rfl
          rotate_left
          · simp only [Act.put, qA_, q0_, q1_, i64_w, i32_w]
            rfl
          refine pure_ (i := 1) (N := some 77) (v := ?_) (a' := ?_) (bs 15 3) rfl rfl (by kernel_rfl) (fun _ _ _ h => h) (Or.inl ⟨by rfl, ?_⟩) ?_ ?_
          rotate_left
          · intro w'
            go_simp
            with_reducible rfl
          rotate_left
          · simp only [Act.put, qA_, q0_, q1_, i64_w, i32_w]
            rfl
          refine pure_ (i := 2) (N := some 78) (v := ?_) (a' := ?_) (bs 15 7) rfl rfl (by kernel_rfl) (fun _ _ _ h => h) (Or.inl ⟨by rfl, ?_⟩) ?_ ?_
          rotate_left
          · intro w'
            go_simp
            with_reducible rfl
          rotate_left
          · simp only [Act.put, qA_, q0_, q1_, i64_w, i32_w]
            rfl
          refine pure_ (i := 3) (N := some 79) (v := ?_) (a' := ?_) (bs 15 15) rfl rfl (by kernel_rfl) (fun _ _ _ h => h) (Or.inl ⟨by rfl, ?_⟩) ?_ ?_
          rotate_left
          · intro w'
            go_simp
            with_reducible rfl
          rotate_left
          · simp only [Act.put, qA_, q0_, q1_, i64_w, i32_w]
            rfl
          refine take_ (i := 4) (N := some 80) (v := ?_) (a' := ?_) (bs 15 31) rfl rfl (by kernel_rfl) (fun _ _ _ h => h) (Or.inl ⟨by rfl, ?_⟩) hHeld ?_ ?_
          rotate_left
          · intro w' s0
            go_simp
            with_reducible rfl
          rotate_left
          · simp only [Act.put, qA_, q0_, q1_, i64_w, i32_w]
            rfl
          refine pure_ (i := 5) (N := some 81) (v := ?_) (a' := ?_) (bs 15 63) rfl rfl (by kernel_rfl) (fun _ _ _ h => h) (Or.inl ⟨by rfl, ?_⟩) ?_ ?_
          rotate_left
          · intro w'
            go_simp
            with_reducible rfl
          rotate_left
          · simp only [Act.put, qA_, q0_, q1_, i64_w, i32_w]
            rfl
          refine pure_ (i := 6) (N := some 82) (v := ?_) (a' := ?_) (bs 15 127) rfl rfl (by kernel_rfl) (fun _ _ _ h => h) (Or.inl ⟨by rfl, ?_⟩) ?_ ?_
          rotate_left
          · intro w'
            go_simp
            with_reducible rfl
          rotate_left
          · simp only [Act.put, qA_, q0_, q1_, i64_w, i32_w]
            rfl
          refine pure_ (i := 7) (N := some 83) (v := ?_) (a' := ?_) (bs 15 255) rfl rfl (by kernel_rfl) (fun _ _ _ h => h) (Or.inl ⟨by rfl, ?_⟩) ?_ ?_
          rotate_left
          · intro w'
            go_simp
            with_reducible rfl
          rotate_left
          · simp only [Act.put, qA_, q0_, q1_, i64_w, i32_w]
            rfl
          refine take_ (i := 8) (N := some 84) (v := ?_) (a' := ?_) (bs 15 511) rfl rfl (by kernel_rfl) (fun _ _ _ h => h) (Or.inl ⟨by rfl, ?_⟩) hHeld ?_ ?_
          rotate_left
          · intro w' s0
            go_simp
            with_reducible rfl
          rotate_left
          · simp only [Act.put, qA_, q0_, q1_, i64_w, i32_w]
            rfl
          refine one_ (i := 9) (N := some 85) (bs 15 1023) rfl rfl (by kernel_rfl) (by decide) (fun K' hK => ?_)
          refine goesP_ Try.func41 (by kernel_rfl) rfl #[.pointer (some ⟨sb, 0, none⟩)] (by rfl) rfl rfl (by first | rfl | (go_simp; done) | (go_simp; rfl)) [{ v := .iface 29 (.int .i64 50), recovered := false }] ?_
          refine (number_calls w0 _ sb lq SQ HQ hbQ).mono ?_
          intro e w3 hh
          obtain ⟨hT, hP⟩ := hh
          rw [hN2] at hP
          exact ⟨hP, rfl, KQ.one hT, rfl⟩
        | some r =>
          obtain ⟨m, l3⟩ := r
          obtain ⟨hm0, hb3, hl3, -, -, -, -⟩ := uNum_some hbQ hN2
          rw [hN2, Option.bind_some] at hRR
          have hlm : l3.length ≤ 140737488355328 := by omega
          by_cases hg : m ≤ (l3.length : Int)
          · rw [if_pos hg] at hRR
            have hRR := Aside0.mk hRR
            obtain ⟨dd, edd⟩ : ∃ dd, l3.take m.toNat = dd := ⟨_, rfl⟩
            have hdl : dd.length < 1000000 := by rw [← edd, List.length_take]; omega
            simp only [edd] at hRR
            go_wp2
            have h0 := c0
            clear c0 c1 f9 c9_
            refine start_ (n := 15) (S := fun w' => w'.cell? ⟨rb, 0, none⟩ = some (.pointer (some ⟨sb, 0, none⟩))) (ds := [14]) (bs 15 0) (by kernel_rfl) rfl rfl (BQ.drew.at 0 rfl) (fun hHeld => ?_)
            replace BQ := BQ.drew; replace SQ := SQ.drew; replace RQ := (RQ.below (below_drew1 (Below.refl _ _))); replace HQ := HQ.drew; replace KQ := KQ.drew
            generalize World.drew wr = wr at *
            refine pure_ (i := 0) (N := some 76) (v := ?_) (a' := ?_) (bs 15 1) rfl rfl (by kernel_rfl) (fun _ _ _ h => h) (Or.inl ⟨by rfl, ?_⟩) ?_ ?_
            rotate_left
            · intro w'
              go_simp
              with_reducible rfl
            rotate_left
            · simp only [Act.put, qA_, q0_, q1_, i64_w, i32_w]
              rfl
            refine pure_ (i := 1) (N := some 77) (v := ?_) (a' := ?_) (bs 15 3) rfl rfl (by kernel_rfl) (fun _ _ _ h => h) (Or.inl ⟨by rfl, ?_⟩) ?_ ?_
            rotate_left
            · intro w'
              go_simp
              with_reducible rfl
            rotate_left
            · simp only [Act.put, qA_, q0_, q1_, i64_w, i32_w]
              rfl
            refine pure_ (i := 2) (N := some 78) (v := ?_) (a' := ?_) (bs 15 7) rfl rfl (by kernel_rfl) (fun _ _ _ h => h) (Or.inl ⟨by rfl, ?_⟩) ?_ ?_
            rotate_left
            · intro w'
              go_simp
              with_reducible rfl
            rotate_left
            · simp only [Act.put, qA_, q0_, q1_, i64_w, i32_w]
              rfl
            refine pure_ (i := 3) (N := some 79) (v := ?_) (a' := ?_) (bs 15 15) rfl rfl (by kernel_rfl) (fun _ _ _ h => h) (Or.inl ⟨by rfl, ?_⟩) ?_ ?_
            rotate_left
            · intro w'
              go_simp
              with_reducible rfl
            rotate_left
            · simp only [Act.put, qA_, q0_, q1_, i64_w, i32_w]
              rfl
            refine take_ (i := 4) (N := some 80) (v := ?_) (a' := ?_) (bs 15 31) rfl rfl (by kernel_rfl) (fun _ _ _ h => h) (Or.inl ⟨by rfl, ?_⟩) hHeld ?_ ?_
            rotate_left
            · intro w' s0
              go_simp
              with_reducible rfl
            rotate_left
            · simp only [Act.put, qA_, q0_, q1_, i64_w, i32_w]
              rfl
            refine pure_ (i := 5) (N := some 81) (v := ?_) (a' := ?_) (bs 15 63) rfl rfl (by kernel_rfl) (fun _ _ _ h => h) (Or.inl ⟨by rfl, ?_⟩) ?_ ?_
            rotate_left
            · intro w'
              go_simp
              with_reducible rfl
            rotate_left
            · simp only [Act.put, qA_, q0_, q1_, i64_w, i32_w]
              rfl
            refine pure_ (i := 6) (N := some 82) (v := ?_) (a' := ?_) (bs 15 127) rfl rfl (by kernel_rfl) (fun _ _ _ h => h) (Or.inl ⟨by rfl, ?_⟩) ?_ ?_
            rotate_left
            · intro w'
              go_simp
              with_reducible rfl
            rotate_left
            · simp only [Act.put, qA_, q0_, q1_, i64_w, i32_w]
              rfl
            refine pure_ (i := 7) (N := some 83) (v := ?_) (a' := ?_) (bs 15 255) rfl rfl (by kernel_rfl) (fun _ _ _ h => h) (Or.inl ⟨by rfl, ?_⟩) ?_ ?_
            rotate_left
            · intro w'
              go_simp
              with_reducible rfl
            rotate_left
            · simp only [Act.put, qA_, q0_, q1_, i64_w, i32_w]
              rfl
            refine take_ (i := 8) (N := some 84) (v := ?_) (a' := ?_) (bs 15 511) rfl rfl (by kernel_rfl) (fun _ _ _ h => h) (Or.inl ⟨by rfl, ?_⟩) hHeld ?_ ?_
            rotate_left
            · intro w' s0
              go_simp
              with_reducible rfl
            rotate_left
            · simp only [Act.put, qA_, q0_, q1_, i64_w, i32_w]
              rfl
            refine one_ (i := 9) (N := some 85) (bs 15 1023) rfl rfl (by kernel_rfl) (by decide) (fun K' hK => ?_)
            refine goes_ Try.func41 (by kernel_rfl) rfl #[.pointer (some ⟨sb, 0, none⟩)] (by rfl) rfl rfl (by first | rfl | (go_simp; done) | (go_simp; rfl)) ?_
            refine (number_calls w0 _ sb lq SQ HQ hbQ).mono ?_
            intro e w3 hh
            obtain ⟨hT, hP⟩ := hh
            rw [hN2] at hP
            obtain ⟨rfl, S3⟩ := hP
            have B3 := BQ.turned hT hrs
            have R3 := RQ.turnedS SQ hT
            have H3 := HQ.kept ((Kept2.refl sb rb _).one hT) hsb hrb
            have K3 := KQ.one hT
            refine ⟨_, rfl, ?_⟩
            refine hK.out _ _ (B3.at 0 rfl) (fun hHeld => ?_)
            clear hK hT BQ RQ HQ KQ SQ
            refine norm_ (a' := ?_) ?_ ?_
            rotate_left
            · simp only [Act.put, qA_, q0_, q1_, i64_w, i32_w]
              rfl
            refine one_ (i := 10) (N := some 86) (bs 15 2047) rfl rfl (by kernel_rfl) (by decide) (fun K' hK => ?_)
            refine goes_ Try.func44 (by kernel_rfl) rfl #[.pointer (some ⟨sb, 0, none⟩), .int .u64 m] (by rfl) rfl rfl (by first | rfl | (go_simp; done) | (go_simp; rfl)) ?_
            refine (take_calls w0 _ sb l3 m S3 H3 hm0.1 hg hlm).mono ?_
            intro e w4 hh
            obtain ⟨hT, v, rfl, O4, S4⟩ := hh
            rw [edd] at O4
            have B4 := B3.turned hT hrs
            have R4 := R3.turnedS S3 hT
            have H4 := H3.kept ((Kept2.refl sb rb _).one hT) hsb hrb
            have K4 := K3.one hT
            refine ⟨_, rfl, ?_⟩
            refine hK.out _ _ (B4.at 0 rfl) (fun hHeld => ?_)
            clear hK hT B3 R3 H3 K3 S3
            obtain ⟨Ad, cd, rfl⟩ := Kd.R_slice O4.out
            refine norm_ (a' := ?_) ?_ ?_
            rotate_left
            · simp only [Act.put, qA_, q0_, q1_, i64_w, i32_w]
              rfl
            refine pure_ (i := 11) (N := some 87) (v := ?_) (a' := ?_) (bs 15 4095) rfl rfl (by kernel_rfl) (fun _ _ _ h => h) (Or.inl ⟨by rfl, ?_⟩) ?_ ?_
            rotate_left
            · intro w'
              go_simp
              with_reducible rfl
            rotate_left
            · simp only [Act.put, qA_, q0_, q1_, i64_w, i32_w]
              rfl
            refine pure_ (i := 12) (N := some 88) (v := ?_) (a' := ?_) (bs 15 8191) rfl rfl (by kernel_rfl) (fun _ _ _ h => h) (Or.inl ⟨by rfl, ?_⟩) ?_ ?_
            rotate_left
            · intro w'
              go_simp
              with_reducible rfl
            rotate_left
            · simp only [Act.put, qA_, q0_, q1_, i64_w, i32_w]
              rfl
            refine pure_ (i := 13) (N := some 89) (v := ?_) (a' := ?_) (bs 15 16383) rfl rfl (by kernel_rfl) (fun _ _ _ h => h) (Or.inl ⟨by rfl, ?_⟩) ?_ ?_
            rotate_left
            · intro w'
              go_simp
              with_reducible rfl
            rotate_left
            · simp only [Act.put, qA_, q0_, q1_, i64_w, i32_w]
              rfl
            have f9 := B4.frozen 9
            have c9_ := B4.at 9 rfl
            refine last_ (i := 14) (N := none) (bs 15 32767) rfl rfl (by kernel_rfl) (by decide) (fun K' hK => ?_)
            refine skip_ (w1 := World.setCell w4 ⟨rb, 9, none⟩ (.slice Ad dd.length cd)) (by rfl) rfl (by first | (go_simp; done) | (go_simp; rfl)) ?_
            refine hK.out _ _ ?_
            refine done_ (by kernel_rfl) ?_
            have B6 : Blk (World.setCell w4 ⟨rb, 9, none⟩ (.slice Ad dd.length cd)) rb 75 _ := B4.set 9 _ rfl
            have O6 := O4.set B4 (by decide) 9 (.slice Ad dd.length cd)
            have R6 := R4.setFar (i := 9) (u := .slice Ad dd.length cd) B4 (by decide)
            have S6 := S4.setFar (i := 9) (u := .slice Ad dd.length cd) hrs.symm
            have K6 := K4.set (i := 9) (u := .slice Ad dd.length cd)
            clear hK O4 R4 S4 H4 K4 B4 f9 c9_ hHeld
            generalize World.setCell w4 ⟨rb, 9, none⟩ (.slice Ad dd.length cd) = w6 at *
            clear edd
            have hRR := hRR.out
            have h8C : Kd.C (Kd.int .u8) w6 Ad (dd).length dd := (Kd.R_reads' O6.out).2.2
            have h8c : (dd).length ≤ cd := (Kd.R_reads' O6.out).2.1
            have h9C : Kd.C k47 w6 none (([] : List S47)).length ([] : List S47) := (Kd.C_nil _ _)
            have h9c : (([] : List S47)).length ≤ 0 := (Nat.le_refl _)
            have hRR : rChk n false ([] : List S47) f dd (l3.drop m.toNat) = R := hRR
            unfold rChk at hRR
            have hC := Aside0.mk (chk_eq (K := 60) (a0 := n) (a7 := false) (l8 := dd) (l9 := ([] : List S47)) (hf.w 1) (hf.w 2) (hf.w 3) (hf.w 4) (hf.w 5) (hf.w 6) hdl (by simp) (by simp))
            generalize uChk n (f 1) (f 2) (f 3) (f 4) (f 5) (f 6) false (dd).length ([] : List S47) = r at hRR hC
            by_cases hz : r = 0
            · rw [if_pos hz] at hRR
              subst hRR
              have hz' : (r == 0) = true := by simp [hz]
              clear hz
              go_wp2_with (first | ((with_reducible refine gate_dst (N := 93) rfl ?_); refine seg_load rfl (N := 93) rfl 27 (.tmp 92) rfl rb 1 [.int .i64 n, .int .u64 (f 1), .int .u64 (f 2), .int .u64 (f 3), .int .u64 (f 4), .int .u64 (f 5), .int .u64 (f 6), .bool false, .slice Ad dd.length cd, .slice none 0 0] rfl B6 rfl Try.underlying27 rfl (by kernel_rfl) ?_) | ((go_at_call 15); (have hcC := frame_Check.calls 60 n (f 1) (f 2) (f 3) (f 4) (f 5) (f 6) false Ad cd dd none 0 ([] : List S47) r _ h8C h8c h9C h9c hC.out; try simp only [List.length_nil] at hcC); (with_reducible refine hcC.mono ?_); rintro e w9 ⟨rfl, hl9⟩; have B9 := B6.below hl9; have R9 := R6.below hl9; have S9 := S6.below hl9; have K9 := K6.below hl9; have O9 := O6.below hl9; clear hl9) | ((go_at_call 42); with_reducible refine (needs_t _).mono ?_; rintro e w' ⟨rfl, rfl⟩))
              go_end0
              exact ⟨K9, rfl, _, _, B9, O9, R9, S9⟩
            · rw [if_neg hz] at hRR
              subst hRR
              have hz' : (r == 0) = false := by simp [hz]
              clear hz
              go_wp2_with (first | ((with_reducible refine gate_dst (N := 93) rfl ?_); refine seg_load rfl (N := 93) rfl 27 (.tmp 92) rfl rb 1 [.int .i64 n, .int .u64 (f 1), .int .u64 (f 2), .int .u64 (f 3), .int .u64 (f 4), .int .u64 (f 5), .int .u64 (f 6), .bool false, .slice Ad dd.length cd, .slice none 0 0] rfl B6 rfl Try.underlying27 rfl (by kernel_rfl) ?_) | ((go_at_call 15); (have hcC := frame_Check.calls 60 n (f 1) (f 2) (f 3) (f 4) (f 5) (f 6) false Ad cd dd none 0 ([] : List S47) r _ h8C h8c h9C h9c hC.out; try simp only [List.length_nil] at hcC); (with_reducible refine hcC.mono ?_); rintro e w9 ⟨rfl, hl9⟩; have B9 := B6.below hl9; have R9 := R6.below hl9; have S9 := S6.below hl9; have K9 := K6.below hl9; have O9 := O6.below hl9; clear hl9) | ((go_at_call 42); with_reducible refine (needs_f _).mono ?_; rintro e w' ⟨rfl, rfl⟩))
              exact ⟨rfl, K9, rfl⟩

          · obtain rfl : R = none := by rw [← hRR, if_neg hg]
            clear hRR
            go_wp2
            have h0 := c0
            clear c0 c1 f9 c9_
            refine start_ (n := 15) (S := fun w' => w'.cell? ⟨rb, 0, none⟩ = some (.pointer (some ⟨sb, 0, none⟩))) (ds := [14]) (bs 15 0) (by kernel_rfl) rfl rfl (BQ.drew.at 0 rfl) (fun hHeld => ?_)
            replace BQ := BQ.drew; replace SQ := SQ.drew; replace RQ := (RQ.below (below_drew1 (Below.refl _ _))); replace HQ := HQ.drew; replace KQ := KQ.drew
            generalize World.drew wr = wr at *
            refine pure_ (i := 0) (N := some 76) (v := ?_) (a' := ?_) (bs 15 1) rfl rfl (by kernel_rfl) (fun _ _ _ h => h) (Or.inl ⟨by rfl, ?_⟩) ?_ ?_
            rotate_left
            · intro w'
              go_simp
              with_reducible rfl
            rotate_left
            · simp only [Act.put, qA_, q0_, q1_, i64_w, i32_w]
              rfl
            refine pure_ (i := 1) (N := some 77) (v := ?_) (a' := ?_) (bs 15 3) rfl rfl (by kernel_rfl) (fun _ _ _ h => h) (Or.inl ⟨by rfl, ?_⟩) ?_ ?_
            rotate_left
            · intro w'
              go_simp
              with_reducible rfl
            rotate_left
            · simp only [Act.put, qA_, q0_, q1_, i64_w, i32_w]
              rfl
            refine pure_ (i := 2) (N := some 78) (v := ?_) (a' := ?_) (bs 15 7) rfl rfl (by kernel_rfl) (fun _ _ _ h => h) (Or.inl ⟨by rfl, ?_⟩) ?_ ?_
            rotate_left
            · intro w'
              go_simp
              with_reducible rfl
            rotate_left
            · simp only [Act.put, qA_, q0_, q1_, i64_w, i32_w]
              rfl
            refine pure_ (i := 3) (N := some 79) (v := ?_) (a' := ?_) (bs 15 15) rfl rfl (by kernel_rfl) (fun _ _ _ h => h) (Or.inl ⟨by rfl, ?_⟩) ?_ ?_
            rotate_left
            · intro w'
              go_simp
              with_reducible rfl
            rotate_left
            · simp only [Act.put, qA_, q0_, q1_, i64_w, i32_w]
              rfl
            refine take_ (i := 4) (N := some 80) (v := ?_) (a' := ?_) (bs 15 31) rfl rfl (by kernel_rfl) (fun _ _ _ h => h) (Or.inl ⟨by rfl, ?_⟩) hHeld ?_ ?_
            rotate_left
            · intro w' s0
              go_simp
              with_reducible rfl
            rotate_left
            · simp only [Act.put, qA_, q0_, q1_, i64_w, i32_w]
              rfl
            refine pure_ (i := 5) (N := some 81) (v := ?_) (a' := ?_) (bs 15 63) rfl rfl (by kernel_rfl) (fun _ _ _ h => h) (Or.inl ⟨by rfl, ?_⟩) ?_ ?_
            rotate_left
            · intro w'
              go_simp
              with_reducible rfl
            rotate_left
            · simp only [Act.put, qA_, q0_, q1_, i64_w, i32_w]
              rfl
            refine pure_ (i := 6) (N := some 82) (v := ?_) (a' := ?_) (bs 15 127) rfl rfl (by kernel_rfl) (fun _ _ _ h => h) (Or.inl ⟨by rfl, ?_⟩) ?_ ?_
            rotate_left
            · intro w'
              go_simp
              with_reducible rfl
            rotate_left
            · simp only [Act.put, qA_, q0_, q1_, i64_w, i32_w]
              rfl
            refine pure_ (i := 7) (N := some 83) (v := ?_) (a' := ?_) (bs 15 255) rfl rfl (by kernel_rfl) (fun _ _ _ h => h) (Or.inl ⟨by rfl, ?_⟩) ?_ ?_
            rotate_left
            · intro w'
              go_simp
              with_reducible rfl
            rotate_left
            · simp only [Act.put, qA_, q0_, q1_, i64_w, i32_w]
              rfl
            refine take_ (i := 8) (N := some 84) (v := ?_) (a' := ?_) (bs 15 511) rfl rfl (by kernel_rfl) (fun _ _ _ h => h) (Or.inl ⟨by rfl, ?_⟩) hHeld ?_ ?_
            rotate_left
            · intro w' s0
              go_simp
              with_reducible rfl
            rotate_left
            · simp only [Act.put, qA_, q0_, q1_, i64_w, i32_w]
              rfl
            refine one_ (i := 9) (N := some 85) (bs 15 1023) rfl rfl (by kernel_rfl) (by decide) (fun K' hK => ?_)
            refine goes_ Try.func41 (by kernel_rfl) rfl #[.pointer (some ⟨sb, 0, none⟩)] (by rfl) rfl rfl (by first | rfl | (go_simp; done) | (go_simp; rfl)) ?_
            refine (number_calls w0 _ sb lq SQ HQ hbQ).mono ?_
            intro e w3 hh
            obtain ⟨hT, hP⟩ := hh
            rw [hN2] at hP
            obtain ⟨rfl, S3⟩ := hP
            have B3 := BQ.turned hT hrs
            have R3 := RQ.turnedS SQ hT
            have H3 := HQ.kept ((Kept2.refl sb rb _).one hT) hsb hrb
            have K3 := KQ.one hT
            refine ⟨_, rfl, ?_⟩
            refine hK.out _ _ (B3.at 0 rfl) (fun hHeld => ?_)
            clear hK hT BQ RQ HQ KQ SQ
            refine norm_ (a' := ?_) ?_ ?_
            rotate_left
            · simp only [Act.put, qA_, q0_, q1_, i64_w, i32_w]
              rfl
            refine one_ (i := 10) (N := some 86) (bs 15 2047) rfl rfl (by kernel_rfl) (by decide) (fun K' hK => ?_)
            refine goesP_ Try.func44 (by kernel_rfl) rfl #[.pointer (some ⟨sb, 0, none⟩), .int .u64 m] (by rfl) rfl rfl (by first | rfl | (go_simp; done) | (go_simp; rfl)) [{ v := .iface 29 (.int .i64 50), recovered := false }] ?_
            refine (take_no w0 _ sb l3 m S3 (by omega) hlm).mono ?_
            intro e w4 hh
            obtain ⟨hT, hP⟩ := hh
            exact ⟨hP, rfl, K3.one hT, rfl⟩
      · have e14 : (n == 14) = false := by simp [h14]
        unfold rEnd at hRR
        rw [if_neg h14] at hRR
        clear h14
        have hdl : ([] : List Int).length < 1000000 := by simp
        have h8C : Kd.C (Kd.int .u8) wr none (([] : List Int)).length ([] : List Int) := (Kd.C_nil _ _)
        have h8c : (([] : List Int)).length ≤ 0 := (Nat.le_refl _)
        have h9C : Kd.C k47 wr none (([] : List S47)).length ([] : List S47) := (Kd.C_nil _ _)
        have h9c : (([] : List S47)).length ≤ 0 := (Nat.le_refl _)
        have hRR : rChk n false ([] : List S47) f ([] : List Int) lq = R := hRR
        unfold rChk at hRR
        have hC := Aside0.mk (chk_eq (K := 60) (a0 := n) (a7 := false) (l8 := ([] : List Int)) (l9 := ([] : List S47)) (hf.w 1) (hf.w 2) (hf.w 3) (hf.w 4) (hf.w 5) (hf.w 6) hdl (by simp) (by simp))
        generalize uChk n (f 1) (f 2) (f 3) (f 4) (f 5) (f 6) false (([] : List Int)).length ([] : List S47) = r at hRR hC
        by_cases hz : r = 0
        · rw [if_pos hz] at hRR
          subst hRR
          have hz' : (r == 0) = true := by simp [hz]
          clear hz
          go_wp2_with (first | ((with_reducible refine gate_dst (N := 93) rfl ?_); refine seg_load rfl (N := 93) rfl 27 (.tmp 92) rfl rb 1 [.int .i64 n, .int .u64 (f 1), .int .u64 (f 2), .int .u64 (f 3), .int .u64 (f 4), .int .u64 (f 5), .int .u64 (f 6), .bool false, .slice none 0 0, .slice none 0 0] rfl BQ rfl Try.underlying27 rfl (by kernel_rfl) ?_) | ((go_at_call 15); (have hcC := frame_Check.calls 60 n (f 1) (f 2) (f 3) (f 4) (f 5) (f 6) false none 0 ([] : List Int) none 0 ([] : List S47) r _ h8C h8c h9C h9c hC.out; try simp only [List.length_nil] at hcC); (with_reducible refine hcC.mono ?_); rintro e w9 ⟨rfl, hl9⟩; have B9 := BQ.below hl9; have R9 := RQ.below hl9; have S9 := SQ.below hl9; have K9 := KQ.below hl9; clear hl9) | ((go_at_call 42); with_reducible refine (needs_t _).mono ?_; rintro e w' ⟨rfl, rfl⟩))
          go_end0
          exact ⟨K9, rfl, _, _, B9, OW.nil _ _, R9, S9⟩
        · rw [if_neg hz] at hRR
          subst hRR
          have hz' : (r == 0) = false := by simp [hz]
          clear hz
          go_wp2_with (first | ((with_reducible refine gate_dst (N := 93) rfl ?_); refine seg_load rfl (N := 93) rfl 27 (.tmp 92) rfl rb 1 [.int .i64 n, .int .u64 (f 1), .int .u64 (f 2), .int .u64 (f 3), .int .u64 (f 4), .int .u64 (f 5), .int .u64 (f 6), .bool false, .slice none 0 0, .slice none 0 0] rfl BQ rfl Try.underlying27 rfl (by kernel_rfl) ?_) | ((go_at_call 15); (have hcC := frame_Check.calls 60 n (f 1) (f 2) (f 3) (f 4) (f 5) (f 6) false none 0 ([] : List Int) none 0 ([] : List S47) r _ h8C h8c h9C h9c hC.out; try simp only [List.length_nil] at hcC); (with_reducible refine hcC.mono ?_); rintro e w9 ⟨rfl, hl9⟩; have B9 := BQ.below hl9; have R9 := RQ.below hl9; have S9 := SQ.below hl9; have K9 := KQ.below hl9; clear hl9) | ((go_at_call 42); with_reducible refine (needs_f _).mono ?_; rintro e w' ⟨rfl, rfl⟩))
          exact ⟨rfl, K9, rfl⟩
theorem fr_15 (w0 w : World) (sb rb : Nat) (l : List Int) (B0 : Blk w rb 75 [.pointer (some ⟨sb, 0, none⟩), .int .i64 0, .int .u64 0, .int .u64 0, .int .u64 0, .int .u64 0, .int .u64 0, .int .u64 0, .bool false, .slice none 0 0, .slice none 0 0]) (S0 : Src w0 w sb l) (H0 : Since w0 w) (hb0 : bytesOk l = true) (hrb : w0.heap.size ≤ rb) (hl : l.length < 1000000) (R : Option FrV) (l1 : List Int) (hN : uNum l = some (15, l1)) (os : List Nat) (ho : fOffs 14 = some os) (hRR : Aside0 (((rNums os (fun _ => 0) l1).bind fun q => rEnd 14 true [] q.1 q.2) = R)) :
    Calls Try.prog 34 #[.pointer (some ⟨rb, 0, none⟩)] w fun e w' => Kept2 sb rb w w' ∧ FrP w0 sb rb R e w' := by
  have hu := Try.underlying75
  have hu2 := Try.underlying27
  have hrs : rb ≠ sb := S0.ne B0 (by decide)
  have hsb := S0.ge
  have K0 := Kept2.refl sb rb w
  have hwb := H0.le
  have c0 := B0.at 0 rfl
  obtain ⟨-, hb1, hl1', -, -, -, -⟩ := uNum_some hb0 hN
  obtain ⟨hm, hol⟩ := fOffs_mem ho
  have hl2 : l1.length < 1000000 := by omega
  have hb2 := hb1
  clear hl1'
  go_enter Try.func34, Try.ntmps34
  go_wp2_with (first | ((go_at_call 41); (with_reducible refine (number_calls w0 _ sb l S0 H0 hb0).mono ?_); rintro e w1 ⟨hT, hP⟩; rw [hN] at hP; obtain ⟨rfl, S1⟩ := hP; have B1 := B0.turned hT hrs; have c0 := B1.at 0 rfl; have c1 := B1.at 1 rfl; have f1 := B1.frozen 1; have f8 := B1.frozen 8; have H1 := H0.kept ((Kept2.refl sb rb _).one hT) hsb hrb; have K1 := K0.one hT; have c8 := B1.at 8 rfl; clear hT) | ((go_at_call 42); with_reducible refine (needs_t _).mono ?_; rintro e w' ⟨rfl, rfl⟩) | ((go_at_call 26); (with_reducible refine (dfieldsC 14 rb os _ ((((B1.set 1 (.int .i64 15) rfl).set 1 (.int .i64 14) rfl).set 8 (.bool true) rfl).at 1 rfl) ho).mono ?_); rintro e w2 ⟨A, rfl, P2, hlb⟩; have B2 := (((B1.set 1 (.int .i64 15) rfl).set 1 (.int .i64 14) rfl).set 8 (.bool true) rfl).below hlb; have c0 := B2.at 0 rfl; have c1 := B2.at 1 rfl; have S2 := (((S1.setFar hrs.symm).setFar hrs.symm).setFar hrs.symm).below hlb; have H2 := (((H1.set hrb).set hrb).set hrb).below hlb; have K2 := (K1.set.set.set).below hlb; clear hlb))
  have R2 := SR.nil w0.heap.size w2
  replace B2 : Blk w2 rb 75 (cellsR sb 14 (fun _ => 0) true (.slice none 0 0) (.slice none 0 0)) := B2
  clear S1 B1 H1 K1
  go_loopw [58] (fun i wr => ∃ (q : Nat) (f : Nat → Int) (lq : List Int), i = .int .i64 q ∧ q ≤ (os).length ∧ ((rNums ((os).drop q) f lq).bind fun r => rEnd 14 true ([] : List S47) r.1 r.2) = R ∧ Small f ∧ bytesOk lq = true ∧ lq.length < 1000000 ∧ Blk wr rb 75 (cellsR sb 14 f true (.slice none 0 0) (.slice none 0 0)) ∧ PR wr A rb ((os).map (· + 1)) ∧ SR w0.heap.size wr (.slice none 0 0) ([] : List S47) ∧ Src w0 wr sb lq ∧ Since w0 wr ∧ Kept2 sb rb w wr) (fun i _ => (os).length - (intOf i).toNat)
  case atStart => exact ⟨0, fun _ => 0, l1, rfl, Nat.zero_le _, hRR.out, Small.zero, hb2, hl2, B2, P2, R2, S2, H2, K2⟩
  case round =>
    clear hRR hb2 B2 P2 R2 S2 H2 K2
    obtain ⟨q, f, lq, rfl, hq, hRR, hf, hbQ, hlq, BQ, PQ, RQ, SQ, HQ, KQ⟩ := hrel
    have c0 := BQ.at 0 rfl
    by_cases hlt : q < (os).length
    · obtain ⟨o, hoq⟩ : ∃ o, (os)[q]? = some o := ⟨_, List.getElem?_eq_getElem hlt⟩
      have hmo := hm o (List.mem_of_getElem? hoq)
      have hne : (os).map (· + 1) ≠ [] := by intro e; rw [List.map_eq_nil_iff] at e; rw [e] at hlt; simp at hlt
      obtain ⟨b, rfl, BP⟩ := PQ hne
      have k1 : wr.cell? ⟨b, q, none⟩ = some (.pointer (some ⟨rb, o + 1, none⟩)) := (BP.cell q).trans (by rw [List.getElem?_map, List.getElem?_map, hoq]; rfl)
      have hdr : (os).drop q = o :: (os).drop (q + 1) := by
        rw [List.drop_eq_getElem_cons hlt]
        congr 1
        exact Option.some.inj ((List.getElem?_eq_getElem hlt).symm.trans hoq)
      rw [hdr, rNums] at hRR
      have dlt : decide ((q : Int) < ((os).length : Int)) = true := decide_eq_true (by omega)
      have hq1 : q + 1 ≤ (os).length := hlt
      have hqb : q < 1000 := by omega
      have hq2 : (q : Int) < (os).length := by omega
      clear hdr hoq hne BP hq
      cases hN2 : uNum lq with
      | none =>
        obtain rfl : R = none := by rw [← hRR, hN2]; rfl
        clear hRR
        go_wp2_with (first | ((go_at_call 41); (with_reducible refine (number_calls w0 _ sb lq SQ HQ hbQ).mono ?_); rintro e w3 ⟨hT, hP⟩; rw [hN2] at hP; have hP : Gave e := hP; unfold Gave at hP; subst hP))
        exact ⟨rfl, KQ.one hT, rfl⟩
      | some r =>
        obtain ⟨v, l3⟩ := r
        obtain ⟨hv, hb3, hl3, -, -, -, -⟩ := uNum_some hbQ hN2
        rw [hN2] at hRR
        simp only [Option.bind_some] at hRR
        have hRR := Aside0.mk hRR
        go_wp2_with (first | ((go_at_call 41); (with_reducible refine (number_calls w0 _ sb lq SQ HQ hbQ).mono ?_); rintro e w3 ⟨hT, hP⟩; rw [hN2] at hP; obtain ⟨rfl, S3⟩ := hP; have B3 := BQ.turned hT hrs; have c0 := B3.at 0 rfl; have c1 := B3.at 1 rfl; have f1 := B3.frozen 1; have f8 := B3.frozen 8; have H3 := HQ.kept ((Kept2.refl sb rb _).one hT) hsb hrb; have K3 := KQ.one hT; have co := (B3.cell (o + 1)).trans (cellsR_at sb 14 f true (.slice none 0 0) (.slice none 0 0) o hmo.1 hmo.2); have fo := B3.frozen (o + 1); have R3 := RQ.turnedS SQ hT; have P3 := PR.turnedS PQ SQ hT; clear hT))
        go_roundw
        case rel => exact ⟨q + 1, upd f o v, l3, by go_num, hq1, hRR.out, hf.upd hv o, hb3, by omega, B3.set (o + 1) _ (cellsR_set _ _ _ _ _ _ o v hmo.1 hmo.2), PR.setR P3 B3, R3.setFar B3 (by decide), S3.setFar hrs.symm, H3.set hrb, K3.set⟩
        case measure => simp [intOf]; omega
    · obtain rfl : q = (os).length := by omega
      rw [List.drop_length, rNums, Option.bind_some] at hRR
      have dlt : decide (((os).length : Int) < ((os).length : Int)) = false := decide_eq_false (by omega)
      have c1 := BQ.at 1 rfl
      have f9 := BQ.frozen 9
      have c9_ := BQ.at 9 rfl
      have hRR : ((uNum lq).bind fun r => if r.1 ≤ r.2.length then rChk 14 true ([] : List S47) f (r.2.take r.1.toNat) (r.2.drop r.1.toNat) else none) = R := hRR
      cases hN2 : uNum lq with
      | none =>
        obtain rfl : R = none := by rw [← hRR, hN2]; rfl
        clear hRR
        go_wp2
        have h0 := c0
        clear c0 c1 f9 c9_
        refine start_ (n := 15) (S := fun w' => w'.cell? ⟨rb, 0, none⟩ = some (.pointer (some ⟨sb, 0, none⟩))) (ds := [14]) (bs 15 0) (by kernel_rfl) rfl rfl (BQ.drew.at 0 rfl) (fun hHeld => ?_)
        replace BQ := BQ.drew; replace SQ := SQ.drew; replace RQ := (RQ.below (below_drew1 (Below.refl _ _))); replace HQ := HQ.drew; replace KQ := KQ.drew
        generalize World.drew wr = wr at *
        refine pure_ (i := 0) (N := some 76) (v := ?_) (a' := ?_) (bs 15 1) rfl rfl (by kernel_rfl) (fun _ _ _ h => h) (Or.inl ⟨by rfl, ?_⟩) ?_ ?_
        rotate_left
        · intro w'
          go_simp
          with_reducible rfl
        rotate_left
        · simp only [Act.put, qA_, q0_, q1_, i64_w, i32_w]
          rfl
        refine pure_ (i := 1) (N := some 77) (v := ?_) (a' := ?_) (bs 15 3) rfl rfl (by kernel_rfl) (fun _ _ _ h => h) (Or.inl ⟨by rfl, ?_⟩) ?_ ?_
        rotate_left
        · intro w'
          go_simp
          with_reducible rfl
        rotate_left
        · simp only [Act.put, qA_, q0_, q1_, i64_w, i32_w]
          rfl
        refine pure_ (i := 2) (N := some 78) (v := ?_) (a' := ?_) (bs 15 7) rfl rfl (by kernel_rfl) (fun _ _ _ h => h) (Or.inl ⟨by rfl, ?_⟩) ?_ ?_
        rotate_left
        · intro w'
          go_simp
          with_reducible rfl
        rotate_left
        · simp only [Act.put, qA_, q0_, q1_, i64_w, i32_w]
          rfl
        refine pure_ (i := 3) (N := some 79) (v := ?_) (a' := ?_) (bs 15 15) rfl rfl (by kernel_rfl) (fun _ _ _ h => h) (Or.inl ⟨by rfl, ?_⟩) ?_ ?_
        rotate_left
        · intro w'
          go_simp
          with_reducible rfl
        rotate_left
        · simp only [Act.put, qA_, q0_, q1_, i64_w, i32_w]
          rfl
        refine take_ (i := 4) (N := some 80) (v := ?_) (a' := ?_) (bs 15 31) rfl rfl (by kernel_rfl) (fun _ _ _ h => h) (Or.inl ⟨by rfl, ?_⟩) hHeld ?_ ?_
        rotate_left
        · intro w' s0
          go_simp
          with_reducible rfl
        rotate_left
        · simp only [Act.put, qA_, q0_, q1_, i64_w, i32_w]
          rfl
        refine pure_ (i := 5) (N := some 81) (v := ?_) (a' := ?_) (bs 15 63) rfl rfl (by kernel_rfl) (fun _ _ _ h => h) (Or.inl ⟨by rfl, ?_⟩) ?_ ?_
        rotate_left
        · intro w'
          go_simp
          with_reducible rfl
        rotate_left
        · simp only [Act.put, qA_, q0_, q1_, i64_w, i32_w]
          rfl
        refine pure_ (i := 6) (N := some 82) (v := ?_) (a' := ?_) (bs 15 127) rfl rfl (by kernel_rfl) (fun _ _ _ h => h) (Or.inl ⟨by rfl, ?_⟩) ?_ ?_
        rotate_left
        · intro w'
          go_simp
          with_reducible rfl
        rotate_left
        · simp only [Act.put, qA_, q0_, q1_, i64_w, i32_w]
          rfl
        refine pure_ (i := 7) (N := some 83) (v := ?_) (a' := ?_) (bs 15 255) rfl rfl (by kernel_rfl) (fun _ _ _ h => h) (Or.inl ⟨by rfl, ?_⟩) ?_ ?_
        rotate_left
        · intro w'
          go_simp
          with_reducible rfl
        rotate_left
        · simp only [Act.put, qA_, q0_, q1_, i64_w, i32_w]
          rfl
        refine take_ (i := 8) (N := some 84) (v := ?_) (a' := ?_) (bs 15 511) rfl rfl (by kernel_rfl) (fun _ _ _ h => h) (Or.inl ⟨by rfl, ?_⟩) hHeld ?_ ?_
        rotate_left
        · intro w' s0
          go_simp
          with_reducible rfl
        rotate_left
        · simp only [Act.put, qA_, q0_, q1_, i64_w, i32_w]
          rfl
        refine one_ (i := 9) (N := some 85) (bs 15 1023) rfl rfl (by kernel_rfl) (by decide) (fun K' hK => ?_)
        refine goesP_ Try.func41 (by kernel_rfl) rfl #[.pointer (some ⟨sb, 0, none⟩)] (by rfl) rfl rfl (by first | rfl | (go_simp; done) | (go_simp; rfl)) [{ v := .iface 29 (.int .i64 50), recovered := false }] ?_
        refine (number_calls w0 _ sb lq SQ HQ hbQ).mono ?_
        intro e w3 hh
        obtain ⟨hT, hP⟩ := hh
        rw [hN2] at hP
        exact ⟨hP, rfl, KQ.one hT, rfl⟩
      | some r =>
        obtain ⟨m, l3⟩ := r
        obtain ⟨hm0, hb3, hl3, -, -, -, -⟩ := uNum_some hbQ hN2
        rw [hN2, Option.bind_some] at hRR
        have hlm : l3.length ≤ 140737488355328 := by omega
        by_cases hg : m ≤ (l3.length : Int)
        · rw [if_pos hg] at hRR
          have hRR := Aside0.mk hRR
          obtain ⟨dd, edd⟩ : ∃ dd, l3.take m.toNat = dd := ⟨_, rfl⟩
          have hdl : dd.length < 1000000 := by rw [← edd, List.length_take]; omega
          simp only [edd] at hRR
          go_wp2
          have h0 := c0
          clear c0 c1 f9 c9_
          refine start_ (n := 15) (S := fun w' => w'.cell? ⟨rb, 0, none⟩ = some (.pointer (some ⟨sb, 0, none⟩))) (ds := [14]) (bs 15 0) (by kernel_rfl) rfl rfl (BQ.drew.at 0 rfl) (fun hHeld => ?_)
          replace BQ := BQ.drew; replace SQ := SQ.drew; replace RQ := (RQ.below (below_drew1 (Below.refl _ _))); replace HQ := HQ.drew; replace KQ := KQ.drew
          generalize World.drew wr = wr at *
          refine pure_ (i := 0) (N := some 76) (v := ?_) (a' := ?_) (bs 15 1) rfl rfl (by kernel_rfl) (fun _ _ _ h => h) (Or.inl ⟨by rfl, ?_⟩) ?_ ?_
          rotate_left
          · intro w'
            go_simp
            with_reducible rfl
          rotate_left
          · simp only [Act.put, qA_, q0_, q1_, i64_w, i32_w]
            rfl
          refine pure_ (i := 1) (N := some 77) (v := ?_) (a' := ?_) (bs 15 3) rfl rfl (by kernel_rfl) (fun _ _ _ h => h) (Or.inl ⟨by rfl, ?_⟩) ?_ ?_
          rotate_left
          · intro w'
            go_simp
            with_reducible rfl
          rotate_left
          · simp only [Act.put, qA_, q0_, q1_, i64_w, i32_w]
            rfl
          refine pure_ (i := 2) (N := some 78) (v := ?_) (a' := ?_) (bs 15 7) rfl rfl (by kernel_rfl) (fun _ _ _ h => h) (Or.inl ⟨by rfl, ?_⟩) ?_ ?_
          rotate_left
          · intro w'
            go_simp
            with_reducible rfl
          rotate_left
          · simp only [Act.put, qA_, q0_, q1_, i64_w, i32_w]
            rfl
          refine pure_ (i := 3) (N := some 79) (v := ?_) (a' := ?_) (bs 15 15) rfl rfl (by kernel_rfl) (fun _ _ _ h => h) (Or.inl ⟨by rfl, ?_⟩) ?_ ?_
          rotate_left
          · intro w'
            go_simp
            with_reducible rfl
          rotate_left
          · simp only [Act.put, qA_, q0_, q1_, i64_w, i32_w]
            rfl
          refine take_ (i := 4) (N := some 80) (v := ?_) (a' := ?_) (bs 15 31) rfl rfl (by kernel_rfl) (fun _ _ _ h => h) (Or.inl ⟨by rfl, ?_⟩) hHeld ?_ ?_
          rotate_left
          · intro w' s0
            go_simp
            with_reducible rfl
          rotate_left
          · simp only [Act.put, qA_, q0_, q1_, i64_w, i32_w]
            rfl
          refine pure_ (i := 5) (N := some 81) (v := ?_) (a' := ?_) (bs 15 63) rfl rfl (by kernel_rfl) (fun _ _ _ h => h) (Or.inl ⟨by rfl, ?_⟩) ?_ ?_
          rotate_left
          · intro w'
            go_simp
            with_reducible rfl
          rotate_left
          · simp only [Act.put, qA_, q0_, q1_, i64_w, i32_w]
            rfl
          refine pure_ (i := 6) (N := some 82) (v := ?_) (a' := ?_) (bs 15 127) rfl rfl (by kernel_rfl) (fun _ _ _ h => h) (Or.inl ⟨by rfl, ?_⟩) ?_ ?_
          rotate_left
          · intro w'
            go_simp
            with_reducible rfl
          rotate_left
          · simp only [Act.put, qA_, q0_, q1_, i64_w, i32_w]
            rfl
          refine pure_ (i := 7) (N := some 83) (v := ?_) (a' := ?_) (bs 15 255) rfl rfl (by kernel_rfl) (fun _ _ _ h => h) (Or.inl ⟨by rfl, ?_⟩) ?_ ?_
          rotate_left
          · intro w'
            go_simp
            with_reducible rfl
          rotate_left
          · simp only [Act.put, qA_, q0_, q1_, i64_w, i32_w]
            rfl
          refine take_ (i := 8) (N := some 84) (v := ?_) (a' := ?_) (bs 15 511) rfl rfl (by kernel_rfl) (fun _ _ _ h => h) (Or.inl ⟨by rfl, ?_⟩) hHeld ?_ ?_
          rotate_left
          · intro w' s0
            go_simp
            with_reducible rfl
          rotate_left
          · simp only [Act.put, qA_, q0_, q1_, i64_w, i32_w]
            rfl
          refine one_ (i := 9) (N := some 85) (bs 15 1023) rfl rfl (by kernel_rfl) (by decide) (fun K' hK => ?_)
          refine goes_ Try.func41 (by kernel_rfl) rfl #[.pointer (some ⟨sb, 0, none⟩)] (by rfl) rfl rfl (by first | rfl | (go_simp; done) | (go_simp; rfl)) ?_
          refine (number_calls w0 _ sb lq SQ HQ hbQ).mono ?_
          intro e w3 hh
          obtain ⟨hT, hP⟩ := hh
          rw [hN2] at hP
          obtain ⟨rfl, S3⟩ := hP
          have B3 := BQ.turned hT hrs
          have R3 := RQ.turnedS SQ hT
          have H3 := HQ.kept ((Kept2.refl sb rb _).one hT) hsb hrb
          have K3 := KQ.one hT
          refine ⟨_, rfl, ?_⟩
          refine hK.out _ _ (B3.at 0 rfl) (fun hHeld => ?_)
          clear hK hT BQ RQ HQ KQ SQ
          refine norm_ (a' := ?_) ?_ ?_
          rotate_left
          · simp only [Act.put, qA_, q0_, q1_, i64_w, i32_w]
            rfl
          refine one_ (i := 10) (N := some 86) (bs 15 2047) rfl rfl (by kernel_rfl) (by decide) (fun K' hK => ?_)
          refine goes_ Try.func44 (by kernel_rfl) rfl #[.pointer (some ⟨sb, 0, none⟩), .int .u64 m] (by rfl) rfl rfl (by first | rfl | (go_simp; done) | (go_simp; rfl)) ?_
          refine (take_calls w0 _ sb l3 m S3 H3 hm0.1 hg hlm).mono ?_
          intro e w4 hh
          obtain ⟨hT, v, rfl, O4, S4⟩ := hh
          rw [edd] at O4
          have B4 := B3.turned hT hrs
          have R4 := R3.turnedS S3 hT
          have H4 := H3.kept ((Kept2.refl sb rb _).one hT) hsb hrb
          have K4 := K3.one hT
          refine ⟨_, rfl, ?_⟩
          refine hK.out _ _ (B4.at 0 rfl) (fun hHeld => ?_)
          clear hK hT B3 R3 H3 K3 S3
          obtain ⟨Ad, cd, rfl⟩ := Kd.R_slice O4.out
          refine norm_ (a' := ?_) ?_ ?_
          rotate_left
          · simp only [Act.put, qA_, q0_, q1_, i64_w, i32_w]
            rfl
          refine pure_ (i := 11) (N := some 87) (v := ?_) (a' := ?_) (bs 15 4095) rfl rfl (by kernel_rfl) (fun _ _ _ h => h) (Or.inl ⟨by rfl, ?_⟩) ?_ ?_
          rotate_left
          · intro w'
            go_simp
            with_reducible rfl
          rotate_left
          · simp only [Act.put, qA_, q0_, q1_, i64_w, i32_w]
            rfl
          refine pure_ (i := 12) (N := some 88) (v := ?_) (a' := ?_) (bs 15 8191) rfl rfl (by kernel_rfl) (fun _ _ _ h => h) (Or.inl ⟨by rfl, ?_⟩) ?_ ?_
          rotate_left
          · intro w'
            go_simp
            with_reducible rfl
          rotate_left
          · simp only [Act.put, qA_, q0_, q1_, i64_w, i32_w]
            rfl
          refine pure_ (i := 13) (N := some 89) (v := ?_) (a' := ?_) (bs 15 16383) rfl rfl (by kernel_rfl) (fun _ _ _ h => h) (Or.inl ⟨by rfl, ?_⟩) ?_ ?_
          rotate_left
          · intro w'
            go_simp
            with_reducible rfl
          rotate_left
          · simp only [Act.put, qA_, q0_, q1_, i64_w, i32_w]
            rfl
          have f9 := B4.frozen 9
          have c9_ := B4.at 9 rfl
          refine last_ (i := 14) (N := none) (bs 15 32767) rfl rfl (by kernel_rfl) (by decide) (fun K' hK => ?_)
          refine skip_ (w1 := World.setCell w4 ⟨rb, 9, none⟩ (.slice Ad dd.length cd)) (by rfl) rfl (by first | (go_simp; done) | (go_simp; rfl)) ?_
          refine hK.out _ _ ?_
          refine done_ (by kernel_rfl) ?_
          have B6 : Blk (World.setCell w4 ⟨rb, 9, none⟩ (.slice Ad dd.length cd)) rb 75 _ := B4.set 9 _ rfl
          have O6 := O4.set B4 (by decide) 9 (.slice Ad dd.length cd)
          have R6 := R4.setFar (i := 9) (u := .slice Ad dd.length cd) B4 (by decide)
          have S6 := S4.setFar (i := 9) (u := .slice Ad dd.length cd) hrs.symm
          have K6 := K4.set (i := 9) (u := .slice Ad dd.length cd)
          clear hK O4 R4 S4 H4 K4 B4 f9 c9_ hHeld
          generalize World.setCell w4 ⟨rb, 9, none⟩ (.slice Ad dd.length cd) = w6 at *
          clear edd
          have hRR := hRR.out
          have h8C : Kd.C (Kd.int .u8) w6 Ad (dd).length dd := (Kd.R_reads' O6.out).2.2
          have h8c : (dd).length ≤ cd := (Kd.R_reads' O6.out).2.1
          have h9C : Kd.C k47 w6 none (([] : List S47)).length ([] : List S47) := (Kd.C_nil _ _)
          have h9c : (([] : List S47)).length ≤ 0 := (Nat.le_refl _)
          have hRR : rChk 14 true ([] : List S47) f dd (l3.drop m.toNat) = R := hRR
          unfold rChk at hRR
          have hC := Aside0.mk (chk_eq (K := 60) (a0 := 14) (a7 := true) (l8 := dd) (l9 := ([] : List S47)) (hf.w 1) (hf.w 2) (hf.w 3) (hf.w 4) (hf.w 5) (hf.w 6) hdl (by simp) (by simp))
          generalize uChk 14 (f 1) (f 2) (f 3) (f 4) (f 5) (f 6) true (dd).length ([] : List S47) = r at hRR hC
          by_cases hz : r = 0
          · rw [if_pos hz] at hRR
            subst hRR
            have hz' : (r == 0) = true := by simp [hz]
            clear hz
            go_wp2_with (first | ((with_reducible refine gate_dst (N := 93) rfl ?_); refine seg_load rfl (N := 93) rfl 27 (.tmp 92) rfl rb 1 [.int .i64 14, .int .u64 (f 1), .int .u64 (f 2), .int .u64 (f 3), .int .u64 (f 4), .int .u64 (f 5), .int .u64 (f 6), .bool true, .slice Ad dd.length cd, .slice none 0 0] rfl B6 rfl Try.underlying27 rfl (by kernel_rfl) ?_) | ((go_at_call 15); (have hcC := frame_Check.calls 60 14 (f 1) (f 2) (f 3) (f 4) (f 5) (f 6) true Ad cd dd none 0 ([] : List S47) r _ h8C h8c h9C h9c hC.out; try simp only [List.length_nil] at hcC); (with_reducible refine hcC.mono ?_); rintro e w9 ⟨rfl, hl9⟩; have B9 := B6.below hl9; have R9 := R6.below hl9; have S9 := S6.below hl9; have K9 := K6.below hl9; have O9 := O6.below hl9; clear hl9) | ((go_at_call 42); with_reducible refine (needs_t _).mono ?_; rintro e w' ⟨rfl, rfl⟩))
            go_end0
            exact ⟨K9, rfl, _, _, B9, O9, R9, S9⟩
          · rw [if_neg hz] at hRR
            subst hRR
            have hz' : (r == 0) = false := by simp [hz]
            clear hz
            go_wp2_with (first | ((with_reducible refine gate_dst (N := 93) rfl ?_); refine seg_load rfl (N := 93) rfl 27 (.tmp 92) rfl rb 1 [.int .i64 14, .int .u64 (f 1), .int .u64 (f 2), .int .u64 (f 3), .int .u64 (f 4), .int .u64 (f 5), .int .u64 (f 6), .bool true, .slice Ad dd.length cd, .slice none 0 0] rfl B6 rfl Try.underlying27 rfl (by kernel_rfl) ?_) | ((go_at_call 15); (have hcC := frame_Check.calls 60 14 (f 1) (f 2) (f 3) (f 4) (f 5) (f 6) true Ad cd dd none 0 ([] : List S47) r _ h8C h8c h9C h9c hC.out; try simp only [List.length_nil] at hcC); (with_reducible refine hcC.mono ?_); rintro e w9 ⟨rfl, hl9⟩; have B9 := B6.below hl9; have R9 := R6.below hl9; have S9 := S6.below hl9; have K9 := K6.below hl9; have O9 := O6.below hl9; clear hl9) | ((go_at_call 42); with_reducible refine (needs_f _).mono ?_; rintro e w' ⟨rfl, rfl⟩))
            exact ⟨rfl, K9, rfl⟩

        · obtain rfl : R = none := by rw [← hRR, if_neg hg]
          clear hRR
          go_wp2
          have h0 := c0
          clear c0 c1 f9 c9_
          refine start_ (n := 15) (S := fun w' => w'.cell? ⟨rb, 0, none⟩ = some (.pointer (some ⟨sb, 0, none⟩))) (ds := [14]) (bs 15 0) (by kernel_rfl) rfl rfl (BQ.drew.at 0 rfl) (fun hHeld => ?_)
          replace BQ := BQ.drew; replace SQ := SQ.drew; replace RQ := (RQ.below (below_drew1 (Below.refl _ _))); replace HQ := HQ.drew; replace KQ := KQ.drew
          generalize World.drew wr = wr at *
          refine pure_ (i := 0) (N := some 76) (v := ?_) (a' := ?_) (bs 15 1) rfl rfl (by kernel_rfl) (fun _ _ _ h => h) (Or.inl ⟨by rfl, ?_⟩) ?_ ?_
          rotate_left
          · intro w'
            go_simp
            with_reducible rfl
          rotate_left
          · simp only [Act.put, qA_, q0_, q1_, i64_w, i32_w]
            rfl
          refine pure_ (i := 1) (N := some 77) (v := ?_) (a' := ?_) (bs 15 3) rfl rfl (by kernel_rfl) (fun _ _ _ h => h) (Or.inl ⟨by rfl, ?_⟩) ?_ ?_
          rotate_left
          · intro w'
            go_simp
            with_reducible rfl
          rotate_left
          · simp only [Act.put, qA_, q0_, q1_, i64_w, i32_w]
            rfl
          refine pure_ (i := 2) (N := some 78) (v := ?_) (a' := ?_) (bs 15 7) rfl rfl (by kernel_rfl) (fun _ _ _ h => h) (Or.inl ⟨by rfl, ?_⟩) ?_ ?_
          rotate_left
          · intro w'
            go_simp
            with_reducible rfl
          rotate_left
          · simp only [Act.put, qA_, q0_, q1_, i64_w, i32_w]
            rfl
          refine pure_ (i := 3) (N := some 79) (v := ?_) (a' := ?_) (bs 15 15) rfl rfl (by kernel_rfl) (fun _ _ _ h => h) (Or.inl ⟨by rfl, ?_⟩) ?_ ?_
          rotate_left
          · intro w'
            go_simp
            with_reducible rfl
          rotate_left
          · simp only [Act.put, qA_, q0_, q1_, i64_w, i32_w]
            rfl
          refine take_ (i := 4) (N := some 80) (v := ?_) (a' := ?_) (bs 15 31) rfl rfl (by kernel_rfl) (fun _ _ _ h => h) (Or.inl ⟨by rfl, ?_⟩) hHeld ?_ ?_
          rotate_left
          · intro w' s0
            go_simp
            with_reducible rfl
          rotate_left
          · simp only [Act.put, qA_, q0_, q1_, i64_w, i32_w]
            rfl
          refine pure_ (i := 5) (N := some 81) (v := ?_) (a' := ?_) (bs 15 63) rfl rfl (by kernel_rfl) (fun _ _ _ h => h) (Or.inl ⟨by rfl, ?_⟩) ?_ ?_
          rotate_left
          · intro w'
            go_simp
            with_reducible rfl
          rotate_left
          · simp only [Act.put, qA_, q0_, q1_, i64_w, i32_w]
            rfl
          refine pure_ (i := 6) (N := some 82) (v := ?_) (a' := ?_) (bs 15 127) rfl rfl (by kernel_rfl) (fun _ _ _ h => h) (Or.inl ⟨by rfl, ?_⟩) ?_ ?_
          rotate_left
          · intro w'
            go_simp
            with_reducible rfl
          rotate_left
          · simp only [Act.put, qA_, q0_, q1_, i64_w, i32_w]
            rfl
          refine pure_ (i := 7) (N := some 83) (v := ?_) (a' := ?_) (bs 15 255) rfl rfl (by kernel_rfl) (fun _ _ _ h => h) (Or.inl ⟨by rfl, ?_⟩) ?_ ?_
          rotate_left
          · intro w'
            go_simp
            with_reducible rfl
          rotate_left
          · simp only [Act.put, qA_, q0_, q1_, i64_w, i32_w]
            rfl
          refine take_ (i := 8) (N := some 84) (v := ?_) (a' := ?_) (bs 15 511) rfl rfl (by kernel_rfl) (fun _ _ _ h => h) (Or.inl ⟨by rfl, ?_⟩) hHeld ?_ ?_
          rotate_left
          · intro w' s0
            go_simp
            with_reducible rfl
          rotate_left
          · simp only [Act.put, qA_, q0_, q1_, i64_w, i32_w]
            rfl
          refine one_ (i := 9) (N := some 85) (bs 15 1023) rfl rfl (by kernel_rfl) (by decide) (fun K' hK => ?_)
          refine goes_ Try.func41 (by kernel_rfl) rfl #[.pointer (some ⟨sb, 0, none⟩)] (by rfl) rfl rfl (by first | rfl | (go_simp; done) | (go_simp; rfl)) ?_
          refine (number_calls w0 _ sb lq SQ HQ hbQ).mono ?_
          intro e w3 hh
          obtain ⟨hT, hP⟩ := hh
          rw [hN2] at hP
          obtain ⟨rfl, S3⟩ := hP
          have B3 := BQ.turned hT hrs
          have R3 := RQ.turnedS SQ hT
          have H3 := HQ.kept ((Kept2.refl sb rb _).one hT) hsb hrb
          have K3 := KQ.one hT
          refine ⟨_, rfl, ?_⟩
          refine hK.out _ _ (B3.at 0 rfl) (fun hHeld => ?_)
          clear hK hT BQ RQ HQ KQ SQ
          refine norm_ (a' := ?_) ?_ ?_
          rotate_left
          · simp only [Act.put, qA_, q0_, q1_, i64_w, i32_w]
            rfl
          refine one_ (i := 10) (N := some 86) (bs 15 2047) rfl rfl (by kernel_rfl) (by decide) (fun K' hK => ?_)
          refine goesP_ Try.func44 (by kernel_rfl) rfl #[.pointer (some ⟨sb, 0, none⟩), .int .u64 m] (by rfl) rfl rfl (by first | rfl | (go_simp; done) | (go_simp; rfl)) [{ v := .iface 29 (.int .i64 50), recovered := false }] ?_
          refine (take_no w0 _ sb l3 m S3 (by omega) hlm).mono ?_
          intro e w4 hh
          obtain ⟨hT, hP⟩ := hh
          exact ⟨hP, rfl, K3.one hT, rfl⟩
theorem fr_2_no (w0 w : World) (sb rb : Nat) (l : List Int) (B0 : Blk w rb 75 [.pointer (some ⟨sb, 0, none⟩), .int .i64 0, .int .u64 0, .int .u64 0, .int .u64 0, .int .u64 0, .int .u64 0, .int .u64 0, .bool false, .slice none 0 0, .slice none 0 0]) (S0 : Src w0 w sb l) (H0 : Since w0 w) (hb0 : bytesOk l = true) (hrb : w0.heap.size ≤ rb) (hl : l.length < 1000000) (R : Option FrV) (l1 : List Int) (hN : uNum l = some (2, l1)) (os : List Nat) (ho : fOffs 2 = some os) (hR : R = none) (hsp : rSp l1 = none) :
    Calls Try.prog 34 #[.pointer (some ⟨rb, 0, none⟩)] w fun e w' => Kept2 sb rb w w' ∧ FrP w0 sb rb R e w' := by
  have hu := Try.underlying75
  have hu2 := Try.underlying27
  have hrs : rb ≠ sb := S0.ne B0 (by decide)
  have hsb := S0.ge
  have K0 := Kept2.refl sb rb w
  have hwb := H0.le
  have c0 := B0.at 0 rfl
  obtain ⟨-, hb1, -, -, -, -, -⟩ := uNum_some hb0 hN
  subst hR
  go_enter Try.func34, Try.ntmps34
  go_wp2_with (first | ((go_at_call 41); (with_reducible refine (number_calls w0 _ sb l S0 H0 hb0).mono ?_); rintro e w1 ⟨hT, hP⟩; rw [hN] at hP; obtain ⟨rfl, S1⟩ := hP; have B1 := B0.turned hT hrs; have c0 := B1.at 0 rfl; have c1 := B1.at 1 rfl; have f1 := B1.frozen 1; have f8 := B1.frozen 8; have H1 := H0.kept ((Kept2.refl sb rb _).one hT) hsb hrb; have K1 := K0.one hT; clear hT) | ((go_at_call 42); with_reducible refine (needs_t _).mono ?_; rintro e w' ⟨rfl, rfl⟩) | ((go_at_call 26); (with_reducible refine (dfieldsC 2 rb os _ ((B1.set 1 (.int .i64 2) rfl).at 1 rfl) ho).mono ?_); rintro e w2 ⟨A, rfl, P2, hlb⟩; have B2 := (B1.set 1 (.int .i64 2) rfl).below hlb; have c0 := B2.at 0 rfl; have c1 := B2.at 1 rfl; have S2 := (S1.setFar hrs.symm).below hlb; have H2 := (H1.set hrb).below hlb; have K2 := (K1.set).below hlb; clear hlb) | ((go_at_call 43); (with_reducible refine (spans_calls w0 _ sb rb (.int .i64 2) (.int .u64 0) (.int .u64 0) (.int .u64 0) (.int .u64 0) (.int .u64 0) (.int .u64 0) (.bool false) (.slice none 0 0) l1 _ hsp B2 S2 H2 hb1 hrb).mono ?_); rintro e w3 ⟨hK3, hP⟩; have hP : Gave e := hP; unfold Gave at hP; subst hP))
  exact ⟨rfl, K2.trans hK3, rfl⟩
theorem fr_2 (w0 w : World) (sb rb : Nat) (l : List Int) (B0 : Blk w rb 75 [.pointer (some ⟨sb, 0, none⟩), .int .i64 0, .int .u64 0, .int .u64 0, .int .u64 0, .int .u64 0, .int .u64 0, .int .u64 0, .bool false, .slice none 0 0, .slice none 0 0]) (S0 : Src w0 w sb l) (H0 : Since w0 w) (hb0 : bytesOk l = true) (hrb : w0.heap.size ≤ rb) (hl : l.length < 1000000) (R : Option FrV) (l1 : List Int) (hN : uNum l = some (2, l1)) (os : List Nat) (ho : fOffs 2 = some os) (s : List S47) (l2 : List Int) (hsp : rSp l1 = some (s, l2)) (hRR : Aside0 (((rNums os (fun _ => 0) l2).bind fun q => rEnd 2 false s q.1 q.2) = R)) :
    Calls Try.prog 34 #[.pointer (some ⟨rb, 0, none⟩)] w fun e w' => Kept2 sb rb w w' ∧ FrP w0 sb rb R e w' := by
  have hu := Try.underlying75
  have hu2 := Try.underlying27
  have hrs : rb ≠ sb := S0.ne B0 (by decide)
  have hsb := S0.ge
  have K0 := Kept2.refl sb rb w
  have hwb := H0.le
  have c0 := B0.at 0 rfl
  obtain ⟨-, hb1, hl1', -, -, -, -⟩ := uNum_some hb0 hN
  obtain ⟨hm, hol⟩ := fOffs_mem ho
  obtain ⟨hs32, hb3, hl3'⟩ := rSp_len hb1 hsp
  have hl3 : l2.length < 1000000 := by omega
  clear hl1' hl3'
  go_enter Try.func34, Try.ntmps34
  go_wp2_with (first | ((go_at_call 41); (with_reducible refine (number_calls w0 _ sb l S0 H0 hb0).mono ?_); rintro e w1 ⟨hT, hP⟩; rw [hN] at hP; obtain ⟨rfl, S1⟩ := hP; have B1 := B0.turned hT hrs; have c0 := B1.at 0 rfl; have c1 := B1.at 1 rfl; have f1 := B1.frozen 1; have f8 := B1.frozen 8; have H1 := H0.kept ((Kept2.refl sb rb _).one hT) hsb hrb; have K1 := K0.one hT; clear hT) | ((go_at_call 42); with_reducible refine (needs_t _).mono ?_; rintro e w' ⟨rfl, rfl⟩) | ((go_at_call 26); (with_reducible refine (dfieldsC 2 rb os _ ((B1.set 1 (.int .i64 2) rfl).at 1 rfl) ho).mono ?_); rintro e w2 ⟨A, rfl, P2, hlb⟩; have B2 := (B1.set 1 (.int .i64 2) rfl).below hlb; have c0 := B2.at 0 rfl; have c1 := B2.at 1 rfl; have S2 := (S1.setFar hrs.symm).below hlb; have H2 := (H1.set hrb).below hlb; have K2 := (K1.set).below hlb; clear hlb) | ((go_at_call 43); (with_reducible refine (spans_calls w0 _ sb rb (.int .i64 2) (.int .u64 0) (.int .u64 0) (.int .u64 0) (.int .u64 0) (.int .u64 0) (.int .u64 0) (.bool false) (.slice none 0 0) l1 _ hsp B2 S2 H2 hb1 hrb).mono ?_); rintro e w3 ⟨hK3, hP⟩; obtain ⟨rfl, sv, B3, R3, S3⟩ := hP; replace R3 := R3.lower H2.le; have P3 := PR.kept P2 S2 B2 hK3; have H3 := H2.kept hK3 hsb hrb; have K3 := K2.trans hK3; clear hK3))
  obtain ⟨A9, c9, rfl⟩ := Kd.R_slice R3.to
  replace B3 : Blk w3 rb 75 (cellsR sb 2 (fun _ => 0) false (.slice none 0 0) (.slice A9 s.length c9)) := B3
  clear S1 B1 H1 K1 S2 B2 H2 K2 P2
  go_loopw [58] (fun i wr => ∃ (q : Nat) (f : Nat → Int) (lq : List Int), i = .int .i64 q ∧ q ≤ (os).length ∧ ((rNums ((os).drop q) f lq).bind fun r => rEnd 2 false s r.1 r.2) = R ∧ Small f ∧ bytesOk lq = true ∧ lq.length < 1000000 ∧ Blk wr rb 75 (cellsR sb 2 f false (.slice none 0 0) (.slice A9 s.length c9)) ∧ PR wr A rb ((os).map (· + 1)) ∧ SR w0.heap.size wr (.slice A9 s.length c9) s ∧ Src w0 wr sb lq ∧ Since w0 wr ∧ Kept2 sb rb w wr) (fun i _ => (os).length - (intOf i).toNat)
  case atStart => exact ⟨0, fun _ => 0, l2, rfl, Nat.zero_le _, hRR.out, Small.zero, hb3, hl3, B3, P3, R3, S3, H3, K3⟩
  case round =>
    clear hRR hb3 B3 P3 R3 S3 H3 K3
    obtain ⟨q, f, lq, rfl, hq, hRR, hf, hbQ, hlq, BQ, PQ, RQ, SQ, HQ, KQ⟩ := hrel
    have c0 := BQ.at 0 rfl
    by_cases hlt : q < (os).length
    · obtain ⟨o, hoq⟩ : ∃ o, (os)[q]? = some o := ⟨_, List.getElem?_eq_getElem hlt⟩
      have hmo := hm o (List.mem_of_getElem? hoq)
      have hne : (os).map (· + 1) ≠ [] := by intro e; rw [List.map_eq_nil_iff] at e; rw [e] at hlt; simp at hlt
      obtain ⟨b, rfl, BP⟩ := PQ hne
      have k1 : wr.cell? ⟨b, q, none⟩ = some (.pointer (some ⟨rb, o + 1, none⟩)) := (BP.cell q).trans (by rw [List.getElem?_map, List.getElem?_map, hoq]; rfl)
      have hdr : (os).drop q = o :: (os).drop (q + 1) := by
        rw [List.drop_eq_getElem_cons hlt]
        congr 1
        exact Option.some.inj ((List.getElem?_eq_getElem hlt).symm.trans hoq)
      rw [hdr, rNums] at hRR
      have dlt : decide ((q : Int) < ((os).length : Int)) = true := decide_eq_true (by omega)
      have hq1 : q + 1 ≤ (os).length := hlt
      have hqb : q < 1000 := by omega
      have hq2 : (q : Int) < (os).length := by omega
      clear hdr hoq hne BP hq
      cases hN2 : uNum lq with
      | none =>
        obtain rfl : R = none := by rw [← hRR, hN2]; rfl
        clear hRR
        go_wp2_with (first | ((go_at_call 41); (with_reducible refine (number_calls w0 _ sb lq SQ HQ hbQ).mono ?_); rintro e w3 ⟨hT, hP⟩; rw [hN2] at hP; have hP : Gave e := hP; unfold Gave at hP; subst hP))
        exact ⟨rfl, KQ.one hT, rfl⟩
      | some r =>
        obtain ⟨v, l3⟩ := r
        obtain ⟨hv, hb3, hl3, -, -, -, -⟩ := uNum_some hbQ hN2
        rw [hN2] at hRR
        simp only [Option.bind_some] at hRR
        have hRR := Aside0.mk hRR
        go_wp2_with (first | ((go_at_call 41); (with_reducible refine (number_calls w0 _ sb lq SQ HQ hbQ).mono ?_); rintro e w3 ⟨hT, hP⟩; rw [hN2] at hP; obtain ⟨rfl, S3⟩ := hP; have B3 := BQ.turned hT hrs; have c0 := B3.at 0 rfl; have c1 := B3.at 1 rfl; have f1 := B3.frozen 1; have f8 := B3.frozen 8; have H3 := HQ.kept ((Kept2.refl sb rb _).one hT) hsb hrb; have K3 := KQ.one hT; have co := (B3.cell (o + 1)).trans (cellsR_at sb 2 f false (.slice none 0 0) (.slice A9 s.length c9) o hmo.1 hmo.2); have fo := B3.frozen (o + 1); have R3 := RQ.turnedS SQ hT; have P3 := PR.turnedS PQ SQ hT; clear hT))
        go_roundw
        case rel => exact ⟨q + 1, upd f o v, l3, by go_num, hq1, hRR.out, hf.upd hv o, hb3, by omega, B3.set (o + 1) _ (cellsR_set _ _ _ _ _ _ o v hmo.1 hmo.2), PR.setR P3 B3, R3.setFar B3 (by decide), S3.setFar hrs.symm, H3.set hrb, K3.set⟩
        case measure => simp [intOf]; omega
    · obtain rfl : q = (os).length := by omega
      rw [List.drop_length, rNums, Option.bind_some] at hRR
      have dlt : decide (((os).length : Int) < ((os).length : Int)) = false := decide_eq_false (by omega)
      have c1 := BQ.at 1 rfl
      have f9 := BQ.frozen 9
      have c9_ := BQ.at 9 rfl
      have hRR : rChk 2 false s f [] lq = R := hRR
      have hdl : ([] : List Int).length < 1000000 := by simp
      have h8C : Kd.C (Kd.int .u8) wr none (([] : List Int)).length ([] : List Int) := (Kd.C_nil _ _)
      have h8c : (([] : List Int)).length ≤ 0 := (Nat.le_refl _)
      have h9C : Kd.C k47 wr A9 (s).length s := (Kd.R_reads' RQ.to).2.2
      have h9c : (s).length ≤ c9 := (Kd.R_reads' RQ.to).2.1
      have hRR : rChk 2 false s f ([] : List Int) lq = R := hRR
      unfold rChk at hRR
      have hC := Aside0.mk (chk_eq (K := 60) (a0 := 2) (a7 := false) (l8 := ([] : List Int)) (l9 := s) (hf.w 1) (hf.w 2) (hf.w 3) (hf.w 4) (hf.w 5) (hf.w 6) hdl (by omega) (by omega))
      generalize uChk 2 (f 1) (f 2) (f 3) (f 4) (f 5) (f 6) false (([] : List Int)).length s = r at hRR hC
      by_cases hz : r = 0
      · rw [if_pos hz] at hRR
        subst hRR
        have hz' : (r == 0) = true := by simp [hz]
        clear hz
        go_wp2_with (first | ((with_reducible refine gate_dst (N := 93) rfl ?_); refine seg_load rfl (N := 93) rfl 27 (.tmp 92) rfl rb 1 [.int .i64 2, .int .u64 (f 1), .int .u64 (f 2), .int .u64 (f 3), .int .u64 (f 4), .int .u64 (f 5), .int .u64 (f 6), .bool false, .slice none 0 0, .slice A9 s.length c9] rfl BQ rfl Try.underlying27 rfl (by kernel_rfl) ?_) | ((go_at_call 15); (have hcC := frame_Check.calls 60 2 (f 1) (f 2) (f 3) (f 4) (f 5) (f 6) false none 0 ([] : List Int) A9 c9 s r _ h8C h8c h9C h9c hC.out; try simp only [List.length_nil] at hcC); (with_reducible refine hcC.mono ?_); rintro e w9 ⟨rfl, hl9⟩; have B9 := BQ.below hl9; have R9 := RQ.below hl9; have S9 := SQ.below hl9; have K9 := KQ.below hl9; clear hl9) | ((go_at_call 42); with_reducible refine (needs_t _).mono ?_; rintro e w' ⟨rfl, rfl⟩))
        go_end0
        exact ⟨K9, rfl, _, _, B9, OW.nil _ _, R9, S9⟩
      · rw [if_neg hz] at hRR
        subst hRR
        have hz' : (r == 0) = false := by simp [hz]
        clear hz
        go_wp2_with (first | ((with_reducible refine gate_dst (N := 93) rfl ?_); refine seg_load rfl (N := 93) rfl 27 (.tmp 92) rfl rb 1 [.int .i64 2, .int .u64 (f 1), .int .u64 (f 2), .int .u64 (f 3), .int .u64 (f 4), .int .u64 (f 5), .int .u64 (f 6), .bool false, .slice none 0 0, .slice A9 s.length c9] rfl BQ rfl Try.underlying27 rfl (by kernel_rfl) ?_) | ((go_at_call 15); (have hcC := frame_Check.calls 60 2 (f 1) (f 2) (f 3) (f 4) (f 5) (f 6) false none 0 ([] : List Int) A9 c9 s r _ h8C h8c h9C h9c hC.out; try simp only [List.length_nil] at hcC); (with_reducible refine hcC.mono ?_); rintro e w9 ⟨rfl, hl9⟩; have B9 := BQ.below hl9; have R9 := RQ.below hl9; have S9 := SQ.below hl9; have K9 := KQ.below hl9; clear hl9) | ((go_at_call 42); with_reducible refine (needs_f _).mono ?_; rintro e w' ⟨rfl, rfl⟩))
        exact ⟨rfl, K9, rfl⟩
theorem fr_3_no (w0 w : World) (sb rb : Nat) (l : List Int) (B0 : Blk w rb 75 [.pointer (some ⟨sb, 0, none⟩), .int .i64 0, .int .u64 0, .int .u64 0, .int .u64 0, .int .u64 0, .int .u64 0, .int .u64 0, .bool false, .slice none 0 0, .slice none 0 0]) (S0 : Src w0 w sb l) (H0 : Since w0 w) (hb0 : bytesOk l = true) (hrb : w0.heap.size ≤ rb) (hl : l.length < 1000000) (R : Option FrV) (l1 : List Int) (hN : uNum l = some (3, l1)) (os : List Nat) (ho : fOffs 3 = some os) (hR : R = none) (hsp : rSp l1 = none) :
    Calls Try.prog 34 #[.pointer (some ⟨rb, 0, none⟩)] w fun e w' => Kept2 sb rb w w' ∧ FrP w0 sb rb R e w' := by
  have hu := Try.underlying75
  have hu2 := Try.underlying27
  have hrs : rb ≠ sb := S0.ne B0 (by decide)
  have hsb := S0.ge
  have K0 := Kept2.refl sb rb w
  have hwb := H0.le
  have c0 := B0.at 0 rfl
  obtain ⟨-, hb1, -, -, -, -, -⟩ := uNum_some hb0 hN
  subst hR
  go_enter Try.func34, Try.ntmps34
  go_wp2_with (first | ((go_at_call 41); (with_reducible refine (number_calls w0 _ sb l S0 H0 hb0).mono ?_); rintro e w1 ⟨hT, hP⟩; rw [hN] at hP; obtain ⟨rfl, S1⟩ := hP; have B1 := B0.turned hT hrs; have c0 := B1.at 0 rfl; have c1 := B1.at 1 rfl; have f1 := B1.frozen 1; have f8 := B1.frozen 8; have H1 := H0.kept ((Kept2.refl sb rb _).one hT) hsb hrb; have K1 := K0.one hT; clear hT) | ((go_at_call 42); with_reducible refine (needs_t _).mono ?_; rintro e w' ⟨rfl, rfl⟩) | ((go_at_call 26); (with_reducible refine (dfieldsC 3 rb os _ ((B1.set 1 (.int .i64 3) rfl).at 1 rfl) ho).mono ?_); rintro e w2 ⟨A, rfl, P2, hlb⟩; have B2 := (B1.set 1 (.int .i64 3) rfl).below hlb; have c0 := B2.at 0 rfl; have c1 := B2.at 1 rfl; have S2 := (S1.setFar hrs.symm).below hlb; have H2 := (H1.set hrb).below hlb; have K2 := (K1.set).below hlb; clear hlb) | ((go_at_call 43); (with_reducible refine (spans_calls w0 _ sb rb (.int .i64 3) (.int .u64 0) (.int .u64 0) (.int .u64 0) (.int .u64 0) (.int .u64 0) (.int .u64 0) (.bool false) (.slice none 0 0) l1 _ hsp B2 S2 H2 hb1 hrb).mono ?_); rintro e w3 ⟨hK3, hP⟩; have hP : Gave e := hP; unfold Gave at hP; subst hP))
  exact ⟨rfl, K2.trans hK3, rfl⟩
theorem fr_3 (w0 w : World) (sb rb : Nat) (l : List Int) (B0 : Blk w rb 75 [.pointer (some ⟨sb, 0, none⟩), .int .i64 0, .int .u64 0, .int .u64 0, .int .u64 0, .int .u64 0, .int .u64 0, .int .u64 0, .bool false, .slice none 0 0, .slice none 0 0]) (S0 : Src w0 w sb l) (H0 : Since w0 w) (hb0 : bytesOk l = true) (hrb : w0.heap.size ≤ rb) (hl : l.length < 1000000) (R : Option FrV) (l1 : List Int) (hN : uNum l = some (3, l1)) (os : List Nat) (ho : fOffs 3 = some os) (s : List S47) (l2 : List Int) (hsp : rSp l1 = some (s, l2)) (hRR : Aside0 (((rNums os (fun _ => 0) l2).bind fun q => rEnd 3 false s q.1 q.2) = R)) :
    Calls Try.prog 34 #[.pointer (some ⟨rb, 0, none⟩)] w fun e w' => Kept2 sb rb w w' ∧ FrP w0 sb rb R e w' := by
  have hu := Try.underlying75
  have hu2 := Try.underlying27
  have hrs : rb ≠ sb := S0.ne B0 (by decide)
  have hsb := S0.ge
  have K0 := Kept2.refl sb rb w
  have hwb := H0.le
  have c0 := B0.at 0 rfl
  obtain ⟨-, hb1, hl1', -, -, -, -⟩ := uNum_some hb0 hN
  obtain ⟨hm, hol⟩ := fOffs_mem ho
  obtain ⟨hs32, hb3, hl3'⟩ := rSp_len hb1 hsp
  have hl3 : l2.length < 1000000 := by omega
  clear hl1' hl3'
  go_enter Try.func34, Try.ntmps34
  go_wp2_with (first | ((go_at_call 41); (with_reducible refine (number_calls w0 _ sb l S0 H0 hb0).mono ?_); rintro e w1 ⟨hT, hP⟩; rw [hN] at hP; obtain ⟨rfl, S1⟩ := hP; have B1 := B0.turned hT hrs; have c0 := B1.at 0 rfl; have c1 := B1.at 1 rfl; have f1 := B1.frozen 1; have f8 := B1.frozen 8; have H1 := H0.kept ((Kept2.refl sb rb _).one hT) hsb hrb; have K1 := K0.one hT; clear hT) | ((go_at_call 42); with_reducible refine (needs_t _).mono ?_; rintro e w' ⟨rfl, rfl⟩) | ((go_at_call 26); (with_reducible refine (dfieldsC 3 rb os _ ((B1.set 1 (.int .i64 3) rfl).at 1 rfl) ho).mono ?_); rintro e w2 ⟨A, rfl, P2, hlb⟩; have B2 := (B1.set 1 (.int .i64 3) rfl).below hlb; have c0 := B2.at 0 rfl; have c1 := B2.at 1 rfl; have S2 := (S1.setFar hrs.symm).below hlb; have H2 := (H1.set hrb).below hlb; have K2 := (K1.set).below hlb; clear hlb) | ((go_at_call 43); (with_reducible refine (spans_calls w0 _ sb rb (.int .i64 3) (.int .u64 0) (.int .u64 0) (.int .u64 0) (.int .u64 0) (.int .u64 0) (.int .u64 0) (.bool false) (.slice none 0 0) l1 _ hsp B2 S2 H2 hb1 hrb).mono ?_); rintro e w3 ⟨hK3, hP⟩; obtain ⟨rfl, sv, B3, R3, S3⟩ := hP; replace R3 := R3.lower H2.le; have P3 := PR.kept P2 S2 B2 hK3; have H3 := H2.kept hK3 hsb hrb; have K3 := K2.trans hK3; clear hK3))
  obtain ⟨A9, c9, rfl⟩ := Kd.R_slice R3.to
  replace B3 : Blk w3 rb 75 (cellsR sb 3 (fun _ => 0) false (.slice none 0 0) (.slice A9 s.length c9)) := B3
  clear S1 B1 H1 K1 S2 B2 H2 K2 P2
  go_loopw [58] (fun i wr => ∃ (q : Nat) (f : Nat → Int) (lq : List Int), i = .int .i64 q ∧ q ≤ (os).length ∧ ((rNums ((os).drop q) f lq).bind fun r => rEnd 3 false s r.1 r.2) = R ∧ Small f ∧ bytesOk lq = true ∧ lq.length < 1000000 ∧ Blk wr rb 75 (cellsR sb 3 f false (.slice none 0 0) (.slice A9 s.length c9)) ∧ PR wr A rb ((os).map (· + 1)) ∧ SR w0.heap.size wr (.slice A9 s.length c9) s ∧ Src w0 wr sb lq ∧ Since w0 wr ∧ Kept2 sb rb w wr) (fun i _ => (os).length - (intOf i).toNat)
  case atStart => exact ⟨0, fun _ => 0, l2, rfl, Nat.zero_le _, hRR.out, Small.zero, hb3, hl3, B3, P3, R3, S3, H3, K3⟩
  case round =>
    clear hRR hb3 B3 P3 R3 S3 H3 K3
    obtain ⟨q, f, lq, rfl, hq, hRR, hf, hbQ, hlq, BQ, PQ, RQ, SQ, HQ, KQ⟩ := hrel
    have c0 := BQ.at 0 rfl
    by_cases hlt : q < (os).length
    · obtain ⟨o, hoq⟩ : ∃ o, (os)[q]? = some o := ⟨_, List.getElem?_eq_getElem hlt⟩
      have hmo := hm o (List.mem_of_getElem? hoq)
      have hne : (os).map (· + 1) ≠ [] := by intro e; rw [List.map_eq_nil_iff] at e; rw [e] at hlt; simp at hlt
      obtain ⟨b, rfl, BP⟩ := PQ hne
      have k1 : wr.cell? ⟨b, q, none⟩ = some (.pointer (some ⟨rb, o + 1, none⟩)) := (BP.cell q).trans (by rw [List.getElem?_map, List.getElem?_map, hoq]; rfl)
      have hdr : (os).drop q = o :: (os).drop (q + 1) := by
        rw [List.drop_eq_getElem_cons hlt]
        congr 1
        exact Option.some.inj ((List.getElem?_eq_getElem hlt).symm.trans hoq)
      rw [hdr, rNums] at hRR
      have dlt : decide ((q : Int) < ((os).length : Int)) = true := decide_eq_true (by omega)
      have hq1 : q + 1 ≤ (os).length := hlt
      have hqb : q < 1000 := by omega
      have hq2 : (q : Int) < (os).length := by omega
      clear hdr hoq hne BP hq
      cases hN2 : uNum lq with
      | none =>
        obtain rfl : R = none := by rw [← hRR, hN2]; rfl
        clear hRR
        go_wp2_with (first | ((go_at_call 41); (with_reducible refine (number_calls w0 _ sb lq SQ HQ hbQ).mono ?_); rintro e w3 ⟨hT, hP⟩; rw [hN2] at hP; have hP : Gave e := hP; unfold Gave at hP; subst hP))
        exact ⟨rfl, KQ.one hT, rfl⟩
      | some r =>
        obtain ⟨v, l3⟩ := r
        obtain ⟨hv, hb3, hl3, -, -, -, -⟩ := uNum_some hbQ hN2
        rw [hN2] at hRR
        simp only [Option.bind_some] at hRR
        have hRR := Aside0.mk hRR
        go_wp2_with (first | ((go_at_call 41); (with_reducible refine (number_calls w0 _ sb lq SQ HQ hbQ).mono ?_); rintro e w3 ⟨hT, hP⟩; rw [hN2] at hP; obtain ⟨rfl, S3⟩ := hP; have B3 := BQ.turned hT hrs; have c0 := B3.at 0 rfl; have c1 := B3.at 1 rfl; have f1 := B3.frozen 1; have f8 := B3.frozen 8; have H3 := HQ.kept ((Kept2.refl sb rb _).one hT) hsb hrb; have K3 := KQ.one hT; have co := (B3.cell (o + 1)).trans (cellsR_at sb 3 f false (.slice none 0 0) (.slice A9 s.length c9) o hmo.1 hmo.2); have fo := B3.frozen (o + 1); have R3 := RQ.turnedS SQ hT; have P3 := PR.turnedS PQ SQ hT; clear hT))
        go_roundw
        case rel => exact ⟨q + 1, upd f o v, l3, by go_num, hq1, hRR.out, hf.upd hv o, hb3, by omega, B3.set (o + 1) _ (cellsR_set _ _ _ _ _ _ o v hmo.1 hmo.2), PR.setR P3 B3, R3.setFar B3 (by decide), S3.setFar hrs.symm, H3.set hrb, K3.set⟩
        case measure => simp [intOf]; omega
    · obtain rfl : q = (os).length := by omega
      rw [List.drop_length, rNums, Option.bind_some] at hRR
      have dlt : decide (((os).length : Int) < ((os).length : Int)) = false := decide_eq_false (by omega)
      have c1 := BQ.at 1 rfl
      have f9 := BQ.frozen 9
      have c9_ := BQ.at 9 rfl
      have hRR : rChk 3 false s f [] lq = R := hRR
      have hdl : ([] : List Int).length < 1000000 := by simp
      have h8C : Kd.C (Kd.int .u8) wr none (([] : List Int)).length ([] : List Int) := (Kd.C_nil _ _)
      have h8c : (([] : List Int)).length ≤ 0 := (Nat.le_refl _)
      have h9C : Kd.C k47 wr A9 (s).length s := (Kd.R_reads' RQ.to).2.2
      have h9c : (s).length ≤ c9 := (Kd.R_reads' RQ.to).2.1
      have hRR : rChk 3 false s f ([] : List Int) lq = R := hRR
      unfold rChk at hRR
      have hC := Aside0.mk (chk_eq (K := 60) (a0 := 3) (a7 := false) (l8 := ([] : List Int)) (l9 := s) (hf.w 1) (hf.w 2) (hf.w 3) (hf.w 4) (hf.w 5) (hf.w 6) hdl (by omega) (by omega))
      generalize uChk 3 (f 1) (f 2) (f 3) (f 4) (f 5) (f 6) false (([] : List Int)).length s = r at hRR hC
      by_cases hz : r = 0
      · rw [if_pos hz] at hRR
        subst hRR
        have hz' : (r == 0) = true := by simp [hz]
        clear hz
        go_wp2_with (first | ((with_reducible refine gate_dst (N := 93) rfl ?_); refine seg_load rfl (N := 93) rfl 27 (.tmp 92) rfl rb 1 [.int .i64 3, .int .u64 (f 1), .int .u64 (f 2), .int .u64 (f 3), .int .u64 (f 4), .int .u64 (f 5), .int .u64 (f 6), .bool false, .slice none 0 0, .slice A9 s.length c9] rfl BQ rfl Try.underlying27 rfl (by kernel_rfl) ?_) | ((go_at_call 15); (have hcC := frame_Check.calls 60 3 (f 1) (f 2) (f 3) (f 4) (f 5) (f 6) false none 0 ([] : List Int) A9 c9 s r _ h8C h8c h9C h9c hC.out; try simp only [List.length_nil] at hcC); (with_reducible refine hcC.mono ?_); rintro e w9 ⟨rfl, hl9⟩; have B9 := BQ.below hl9; have R9 := RQ.below hl9; have S9 := SQ.below hl9; have K9 := KQ.below hl9; clear hl9) | ((go_at_call 42); with_reducible refine (needs_t _).mono ?_; rintro e w' ⟨rfl, rfl⟩))
        go_end0
        exact ⟨K9, rfl, _, _, B9, OW.nil _ _, R9, S9⟩
      · rw [if_neg hz] at hRR
        subst hRR
        have hz' : (r == 0) = false := by simp [hz]
        clear hz
        go_wp2_with (first | ((with_reducible refine gate_dst (N := 93) rfl ?_); refine seg_load rfl (N := 93) rfl 27 (.tmp 92) rfl rb 1 [.int .i64 3, .int .u64 (f 1), .int .u64 (f 2), .int .u64 (f 3), .int .u64 (f 4), .int .u64 (f 5), .int .u64 (f 6), .bool false, .slice none 0 0, .slice A9 s.length c9] rfl BQ rfl Try.underlying27 rfl (by kernel_rfl) ?_) | ((go_at_call 15); (have hcC := frame_Check.calls 60 3 (f 1) (f 2) (f 3) (f 4) (f 5) (f 6) false none 0 ([] : List Int) A9 c9 s r _ h8C h8c h9C h9c hC.out; try simp only [List.length_nil] at hcC); (with_reducible refine hcC.mono ?_); rintro e w9 ⟨rfl, hl9⟩; have B9 := BQ.below hl9; have R9 := RQ.below hl9; have S9 := SQ.below hl9; have K9 := KQ.below hl9; clear hl9) | ((go_at_call 42); with_reducible refine (needs_f _).mono ?_; rintro e w' ⟨rfl, rfl⟩))
        exact ⟨rfl, K9, rfl⟩

end Go.Proofs.Ytphakdfholkbdaa
