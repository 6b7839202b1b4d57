import Derived.Outline
import Derived.Handy
import Derived.Recover
import Derived.WalkSmall
import Derived.Laws.Externs
import Derived.Laws.CopyOwn
import Derived.Lib.AppendZerosOnto
import Derived.Lib.Overlaps
import Derived.Deep.RegionLaw
import Derived.Test.YtphakdfholkbdaaPFrax0
import Derived.Test.YtphakdfholkbdaaNum
import Derived.Test.YtphakdfholkbdaaSeg
import Derived.Test.YtphakdfholkbdaaFraB
import Derived.Test.YtphakdfholkbdaaFrPr
namespace Go.Proofs.Ytphakdfholkbdaa
open Go.Proofs.Ytphakdfholkbdaa.PFra Go.RowKit Go.Proofs.YtphakdfholkbdaaW.PrintWords Go.Proofs.YtphakdfholkbdaaW.PrintLast Go.Proofs.YtphakdfholkbdaaW.PrintMore
set_option maxRecDepth 100000
set_option maxHeartbeats 4000000
set_option linter.unusedVariables false
set_option linter.unusedSimpArgs false
theorem fr_kind {n : Int} (h0 : 0 ≤ n) (h : n ≤ 30) : IntKind.i64.wrap n = n := by rw [IntKind.wrap_i64]; omega
theorem frame_calls (w0 w : World) (sb rb : Nat) (l : List Int) (R : Option FrV) (hR : rFr l = R) (B0 : Blk w rb 75 [.pointer (some ⟨sb, 0, none⟩), .int .i64 0, .int .u64 0, .int .u64 0, .int .u64 0, .int .u64 0, .int .u64 0, .int .u64 0, .bool false, .slice none 0 0, .slice none 0 0]) (S0 : Src w0 w sb l) (H0 : Since w0 w) (hb0 : bytesOk l = true) (hrb : w0.heap.size ≤ rb) (hl : l.length < 1000000) :
    Calls Try.prog 34 #[.pointer (some ⟨rb, 0, none⟩)] w fun e w' => Kept2 sb rb w w' ∧ FrP w0 sb rb R e w' := by
  unfold rFr at hR
  cases hN : uNum l with
  | none => exact fr_none w0 w sb rb l B0 S0 H0 hb0 hrb hl R (by rw [← hR, hN]; rfl) hN
  | some r =>
    obtain ⟨n, l1⟩ := r
    obtain ⟨hn, hb1, -, -, -, -, -⟩ := uNum_some hb0 hN
    rw [hN, Option.bind_some] at hR
    simp only at hR
    by_cases h30 : n ≤ 30
    · rw [if_pos h30] at hR
      have hd : decide (n ≤ 30) = true := decide_eq_true h30
      by_cases h15 : n = 15
      · subst h15
        rw [if_pos rfl] at hR
        exact fr_15 w0 w sb rb l B0 S0 H0 hb0 hrb hl R l1 hN [1, 2] rfl ⟨hR⟩
      · rw [if_neg h15] at hR
        have e15 : (n == 15) = false := beq_eq_false_iff_ne.mpr h15
        unfold rKind at hR
        cases ho : fOffs n with
        | none =>
          rw [ho] at hR
          exact fr_no w0 w sb rb l B0 S0 H0 hb0 hrb hl R hR.symm n l1 hN hd e15 (fr_kind hn.1 h30) ho
        | some os =>
          rw [ho] at hR
          simp only at hR
          by_cases hk : n = 2 ∨ n = 3
          · rw [if_pos hk] at hR
            cases hsp : rSp l1 with
            | none =>
              have hR0 : R = none := by rw [← hR, hsp]; rfl
              rcases hk with rfl | rfl
              · exact fr_2_no w0 w sb rb l B0 S0 H0 hb0 hrb hl R l1 hN os ho hR0 hsp
              · exact fr_3_no w0 w sb rb l B0 S0 H0 hb0 hrb hl R l1 hN os ho hR0 hsp
            | some r =>
              obtain ⟨s, l2⟩ := r
              rw [hsp, Option.bind_some] at hR
              rcases hk with rfl | rfl
              · exact fr_2 w0 w sb rb l B0 S0 H0 hb0 hrb hl R l1 hN os ho s l2 hsp ⟨hR⟩
              · exact fr_3 w0 w sb rb l B0 S0 H0 hb0 hrb hl R l1 hN os ho s l2 hsp ⟨hR⟩
          · rw [if_neg hk] at hR
            exact fr_any w0 w sb rb l B0 S0 H0 hb0 hrb hl R n l1 hN hd e15 (fr_kind hn.1 h30) os ho (beq_eq_false_iff_ne.mpr fun h => hk (.inl h)) (beq_eq_false_iff_ne.mpr fun h => hk (.inr h)) ⟨hR⟩
    · rw [if_neg h30] at hR
      exact fr_big w0 w sb rb l B0 S0 H0 hb0 hrb hl R hR.symm n l1 hN (decide_eq_false h30)
theorem clos_idle (ge gf gn : Nat) (x : Int) (w : World) (Be : Blk w ge 29 [.int .i64 x]) :
    CallsD Try.prog 32 #[.pointer (some ⟨ge, 0, none⟩), .pointer (some ⟨gf, 0, none⟩), .pointer (some ⟨gn, 0, none⟩)] .returning w fun e u' w' => e = .returned (.tuple #[]) ∧ u' = .returning ∧ w' = w.setCell ⟨ge, 0, none⟩ (.int .i64 0) := by
  have c0 := Be.at 0 rfl
  have f0 := Be.frozen 0
  refine callsD_of_wpS Try.func32 rfl fun c₀ cs hu => ?_
  apply wpS_seq
  apply wpS_region
  simp [wpOpsS, go_sem, recoverD, hu, Try.ntmps32, Exit.thenS]
  refine (caught_nil w).mono ?_
  rintro e w' ⟨rfl, rfl⟩
  simp [go_sem, c0, f0]
  apply wpS_seq
  apply wpS_region
  simp [wpOpsS, go_sem, c0, f0, Exit.thenS]
  refine wpS_cond (t := false) (by simp [Act.eval, Array.replicate]) ?_
  simp only [Bool.false_eq_true, if_false]
  refine wpS_of_wp (wp_skip ?_)
  cases c₀
  simp_all [bodyPostS, results, Try.func32]
theorem clos_gave (ge gf gn : Nat) (x n0 : Int) (l0 : List Value) (hl0 : l0.length = 10) (w : World) (Be : Blk w ge 29 [.int .i64 x]) (Bf : Blk w gf 27 l0) (Bn : Blk w gn 3 [.int .i64 n0]) :
    CallsD Try.prog 32 #[.pointer (some ⟨ge, 0, none⟩), .pointer (some ⟨gf, 0, none⟩), .pointer (some ⟨gn, 0, none⟩)] (.panicking [{ v := .iface 29 (.int .i64 50), recovered := false }]) w fun e u' w' =>
      e = .returned (.tuple #[]) ∧ u' = .panicking [{ v := .iface 29 (.int .i64 50), recovered := true }] ∧ Blk w' ge 29 [.int .i64 50] ∧ Blk w' gf 27 [.int .i64 0, .int .u64 0, .int .u64 0, .int .u64 0, .int .u64 0, .int .u64 0, .int .u64 0, .bool false, .slice none 0 0, .slice none 0 0] ∧ Blk w' gn 3 [.int .i64 0] ∧ (∀ w0, Since w0 w → w0.heap.size ≤ ge → w0.heap.size ≤ gf → w0.heap.size ≤ gn → Since w0 w') := by
  have c0 := Be.at 0 rfl
  have f0 := Be.frozen 0
  have hef : ge ≠ gf := blk_ne_of Be Bf (by decide)
  have hen : ge ≠ gn := blk_ne_of Be Bn (by decide)
  have hfn : gf ≠ gn := blk_ne_of Bf Bn (by decide)
  have hu27 := Try.underlying27
  refine callsD_of_wpS Try.func32 rfl fun c₀ cs hu => ?_
  apply wpS_seq
  apply wpS_region
  simp [wpOpsS, go_sem, recoverD, hu, Try.ntmps32, Exit.thenS]
  refine (caught_it w).mono ?_
  rintro e w' ⟨rfl, rfl⟩
  simp [go_sem, c0, f0]
  apply wpS_seq
  apply wpS_region
  simp [wpOpsS, go_sem, c0, f0, Exit.thenS]
  refine wpS_cond (t := true) (by simp [Act.eval, Array.replicate]) ?_
  simp only [if_true]
  replace Be := Be.set 0 (.int .i64 50) rfl
  replace Bf := Bf.setFar (i := 0) (u := .int .i64 50) hef.symm
  replace Bn := Bn.setFar (i := 0) (u := .int .i64 50) hen.symm
  have HS : ∀ w0, Since w0 w → w0.heap.size ≤ ge → Since w0 (w.setCell ⟨ge, 0, none⟩ (.int .i64 50)) := fun w0 h h1 => h.set h1
  generalize w.setCell ⟨ge, 0, none⟩ (.int .i64 50) = w1 at *
  have c1 := Bn.at 0 rfl
  have f1 := Bn.frozen 0
  refine wpS_of_wp ?_
  go_wp2_with (refine seg_store rfl rfl 27 (.tmp 1) (.tmp 7) rfl gf 0 [.int .i64 0, .int .u64 0, .int .u64 0, .int .u64 0, .int .u64 0, .int .u64 0, .int .u64 0, .bool false, .slice none 0 0, .slice none 0 0] [.int .i64 0, .int .u64 0, .int .u64 0, .int .u64 0, .int .u64 0, .int .u64 0, .int .u64 0, .bool false, .slice none 0 0, .slice none 0 0] _ rfl rfl rfl Bf (by kernel_rfl) (by rw [hl0]; decide) rfl ?hx ?_; (case hx => (rw [List.drop_of_length_le (by rw [hl0]; decide)]; rfl)); intro w2 Bf2 hg2; have Be2 := Be.grown hg2 hef; have Bn2 := Bn.grown hg2 hfn.symm; have c2 := Bn2.at 0 rfl; have f2 := Bn2.frozen 0)
  have B1 : Blk (w2.setCell ⟨gn, 0, none⟩ (.int .i64 0)) ge 29 [.int .i64 50] := Be2.setFar hen
  have B2 := Bf2.setFar (i := 0) (u := .int .i64 0) hfn
  have B3 : Blk (w2.setCell ⟨gn, 0, none⟩ (.int .i64 0)) gn 3 [.int .i64 0] := Bn2.set 0 _ rfl
  have HS2 : ∀ (w0 : World), Since w0 w → w0.heap.size ≤ ge → w0.heap.size ≤ gf → w0.heap.size ≤ gn → Since w0 (w2.setCell ⟨gn, 0, none⟩ (.int .i64 0)) := fun w0 h h1 h2 h3 => ((HS w0 h h1).grown hg2 h2).set h3
  generalize w2.setCell ⟨gn, 0, none⟩ (.int .i64 0) = w3 at *
  simp [bodyPostS, results, Try.func32]
  exact ⟨B1, B2, B3, HS2⟩
theorem Blk.kept {w w1 : World} {g a b : Nat} {t : TypeId} {l : List Value} (h : Blk w g t l) (hk : Kept2 a b w w1) (ha : g ≠ a) (hb : g ≠ b) : Blk w1 g t l := ⟨(hk.block g h.lt ha hb).trans h.out⟩
theorem leaves_tmps {P : Program} {fn : Func} {R : Ending → World → Prop} {t t' : Array Value} (h : ∀ w, (results fn t).run P w = (results fn t').run P w) : ∀ ds u w, Leaves P fn t R ds u w → Leaves P fn t' R ds u w
  | [], .returning, w, hl => by
    obtain ⟨v, hv, hr⟩ := hl
    exact ⟨v, by rw [← h]; exact hv, hr⟩
  | [], .panicking chain, w, hl => hl
  | [], .run, w, hl => hl
  | d :: ds, u, w, hl => by
    obtain ⟨hu, fv, cap, f, args, ht, hi, hc⟩ := hl
    refine ⟨hu, fv, cap, f, args, ht, hi, ?_⟩
    refine hc.mono ?_
    intro e u' w' hh
    cases e with
    | returned v => exact leaves_tmps h ds _ _ hh
    | panicked c => exact leaves_tmps h ds _ _ hh
    | outgrown => exact hh
theorem hQ17 {K : Act → World → Prop} {R : Ending → World → Prop} (N : Nat) (hN : N ≠ 2 ∧ N ≠ 3 ∧ N ≠ 4) (v : Value) (c : List PanicEntry) (a : Act) (w : World) (h : Exit.then K (bodyPostD Try.prog Try.f17 R) (.panic c) (a.put (some N) v) w) : Exit.then K (bodyPostD Try.prog Try.f17 R) (.panic c) a w := by
  obtain ⟨h2, h3, h4⟩ := hN
  refine leaves_tmps (t := (a.put (some N) v).tmps) (fun w => ?_) _ _ _ h
  have e : ∀ k, N ≠ k → ((a.put (some N) v).tmps)[k]?.getD undef = (a.tmps)[k]?.getD undef := fun k hk => by simp [Act.put, Array.getElem?_setIfInBounds_ne, hk]
  simp [results, Try.f17, e 2 h2, e 3 h3, e 4 h4]
abbrev PaV := Int × Int × Int × Int × Int × Int × Int × Bool × List Int × List S47 × Int × Int
/-- What frame.Parse answers. -/
def uParse (l : List Int) : PaV := match rFr l with
  | none => (0, 0, 0, 0, 0, 0, 0, false, [], [], 0, 50)
  | some (K, f, fin, d, s, r) => (K, f 1, f 2, f 3, f 4, f 5, f 6, fin, d, s, (l.length : Int) - r.length, 0)
theorem parse_no (A : Option Addr) (c : Nat) (l : List Int) (w : World) (hr : Kd.C (Kd.int .u8) w A l.length l) (hc : l.length ≤ c) (hb : bytesOk l = true) (hl : l.length < 1000000) (hR : rFr l = none) :
    Calls Try.prog 17 #[.slice A l.length c] w fun e w' => e = .returned (.tuple #[.agg #[.int .i64 0, .int .u64 0, .int .u64 0, .int .u64 0, .int .u64 0, .int .u64 0, .int .u64 0, .bool false, .slice none 0 0, .slice none 0 0], .int .i64 0, .int .i64 50]) ∧ Since w w' := by
  have hmf : ∀ (fn : Fn) (first cap : Array Value) (w : World), (Instr.makeFunc fn first cap).run Try.prog w = .ok (.func fn first cap) w := fun _ _ _ _ => rfl
  have H0 := Since.refl w
  go_enter_defers Try.func17, Try.ntmps17
  go_wp2_with (first
    | ((with_reducible refine gate_dst (N := 2) rfl ?_); refine seg_new rfl (N := 2) rfl [.int .i64 0, .int .u64 0, .int .u64 0, .int .u64 0, .int .u64 0, .int .u64 0, .int .u64 0, .bool false, .slice none 0 0, .slice none 0 0] 27 ?hr ?_; (case hr => rfl); intro gf hg1 w1 Bf hlb; have Gf := ge_new H0 hg1; clear hg1; have H1 := H0.below hlb; clear hlb)
    | ((with_reducible refine gate_dst (N := 3) rfl ?_); refine seg_new rfl (N := 3) rfl [.int .i64 0] 3 ?hr ?_; (case hr => rfl); intro gn hg1 w2 Bn hlb; have Gn := ge_new H1 hg1; clear hg1; have H2 := H1.below hlb; replace Bf := Bf.below hlb; clear hlb)
    | ((with_reducible refine gate_dst (N := 4) rfl ?_); refine seg_new rfl (N := 4) rfl [.int .i64 0] 29 ?hr ?_; (case hr => rfl); intro ge hg1 w3 Be hlb; have Ge := ge_new H2 hg1; clear hg1; have H3 := H2.below hlb; replace Bf := Bf.below hlb; replace Bn := Bn.below hlb; clear hlb)
    | ((with_reducible refine gate_dst (N := 9) rfl ?_); refine seg_new rfl (N := 9) rfl [.slice A l.length c] 73 ?hr ?_; (case hr => rfl); intro sb hg1 w4 Bs hlb; have Gs := ge_new H3 hg1; clear hg1; have H4 := H3.below hlb; replace Bf := Bf.below hlb; replace Bn := Bn.below hlb; replace Be := Be.below hlb; clear hlb)
    | ((with_reducible refine gate_dst (N := 11) rfl ?_); refine seg_new rfl (N := 11) rfl [.pointer (some ⟨sb, 0, none⟩), .int .i64 0, .int .u64 0, .int .u64 0, .int .u64 0, .int .u64 0, .int .u64 0, .int .u64 0, .bool false, .slice none 0 0, .slice none 0 0] 75 ?hr ?_; (case hr => rfl); intro rb hg1 w5 Br hlb; have Gr := ge_new H4 hg1; clear hg1; have H5 := H4.below hlb; replace Bf := Bf.below hlb; replace Bn := Bn.below hlb; replace Be := Be.below hlb; replace Bs := Bs.below hlb; clear hlb)
    | ((go_at_call 34); (with_reducible refine (frame_calls w _ sb rb l none hR Br ⟨Gs, A, c, Bs, hr, hc⟩ H5 hb Gr hl).mono ?_); rintro e w6 ⟨hK, hP⟩; have hP : Gave e := hP; unfold Gave at hP; subst hP))
  have hfs : gf ≠ sb := blk_ne_of Bf Bs (by decide)
  have hfr : gf ≠ rb := blk_ne_of Bf Br (by decide)
  have hns : gn ≠ sb := blk_ne_of Bn Bs (by decide)
  have hnr : gn ≠ rb := blk_ne_of Bn Br (by decide)
  have hes : ge ≠ sb := blk_ne_of Be Bs (by decide)
  have her : ge ≠ rb := blk_ne_of Be Br (by decide)
  have hef : ge ≠ gf := blk_ne_of Be Bf (by decide)
  have hen : ge ≠ gn := blk_ne_of Be Bn (by decide)
  have hnf : gn ≠ gf := blk_ne_of Bn Bf (by decide)
  replace Bf := Bf.kept hK hfs hfr
  replace Bn := Bn.kept hK hns hnr
  replace Be := Be.kept hK hes her
  have H6 := H5.kept hK Gs Gr
  clear hK Bs Br H5 H4 H3 H2 H1
  refine leaves_cons (f := 32) (args := #[.pointer (some ⟨ge, 0, none⟩), .pointer (some ⟨gf, 0, none⟩), .pointer (some ⟨gn, 0, none⟩)]) (by simp) (by simp [go_sem]) ?_
  refine (clos_gave ge gf gn 0 0 _ rfl w6 Be Bf Bn).mono ?_
  rintro e u' w7 ⟨rfl, rfl, Be7, Bf7, Bn7, HS⟩
  have H7 := HS w H6 Ge Gf Gn
  have d0 := Bf7.at 0 rfl; have d1 := Bf7.at 1 rfl; have d2 := Bf7.at 2 rfl; have d3 := Bf7.at 3 rfl; have d4 := Bf7.at 4 rfl; have d5 := Bf7.at 5 rfl; have d6 := Bf7.at 6 rfl; have d7 := Bf7.at 7 rfl; have d8 := Bf7.at 8 rfl; have d9 := Bf7.at 9 rfl
  have c1 := Be7.at 0 rfl
  have c2 := Bn7.at 0 rfl
  simp [Leaves, settle, results, Try.func17, go_sem, c1, c2, d0, d1, d2, d3, d4, d5, d6, d7, d8, d9]
  exact H7
theorem parse_ok (A : Option Addr) (c : Nat) (l : List Int) (w : World) (hr : Kd.C (Kd.int .u8) w A l.length l) (hc : l.length ≤ c) (hb : bytesOk l = true) (hl : l.length < 1000000) (K : Int) (f : Nat → Int) (fin : Bool) (d : List Int) (s : List S47) (r : List Int) (hR : rFr l = some (K, f, fin, d, s, r)) (hwl : IntKind.i64.wrap ((l.length : Int) - (r.length : Int)) = (l.length : Int) - r.length) :
    Calls Try.prog 17 #[.slice A l.length c] w fun e w' => ∃ dv sv, e = .returned (.tuple #[.agg #[.int .i64 K, .int .u64 (f 1), .int .u64 (f 2), .int .u64 (f 3), .int .u64 (f 4), .int .u64 (f 5), .int .u64 (f 6), .bool fin, dv, sv], .int .i64 ((l.length : Int) - r.length), .int .i64 0]) ∧ OW w w' dv d ∧ SR w.heap.size w' sv s ∧ Since w w' := by
  have hmf : ∀ (fn : Fn) (first cap : Array Value) (w : World), (Instr.makeFunc fn first cap).run Try.prog w = .ok (.func fn first cap) w := fun _ _ _ _ => rfl
  have H0 := Since.refl w
  go_enter_defers Try.func17, Try.ntmps17
  go_wp2_with (first
    | ((with_reducible refine gate_dst (N := 2) rfl ?_); refine seg_new rfl (N := 2) rfl [.int .i64 0, .int .u64 0, .int .u64 0, .int .u64 0, .int .u64 0, .int .u64 0, .int .u64 0, .bool false, .slice none 0 0, .slice none 0 0] 27 ?hr ?_; (case hr => rfl); intro gf hg1 w1 Bf hlb; have Gf := ge_new H0 hg1; clear hg1; have H1 := H0.below hlb; clear hlb)
    | ((with_reducible refine gate_dst (N := 3) rfl ?_); refine seg_new rfl (N := 3) rfl [.int .i64 0] 3 ?hr ?_; (case hr => rfl); intro gn hg1 w2 Bn hlb; have Gn := ge_new H1 hg1; clear hg1; have H2 := H1.below hlb; replace Bf := Bf.below hlb; clear hlb)
    | ((with_reducible refine gate_dst (N := 4) rfl ?_); refine seg_new rfl (N := 4) rfl [.int .i64 0] 29 ?hr ?_; (case hr => rfl); intro ge hg1 w3 Be hlb; have Ge := ge_new H2 hg1; clear hg1; have H3 := H2.below hlb; replace Bf := Bf.below hlb; replace Bn := Bn.below hlb; clear hlb)
    | ((with_reducible refine gate_dst (N := 9) rfl ?_); refine seg_new rfl (N := 9) rfl [.slice A l.length c] 73 ?hr ?_; (case hr => rfl); intro sb hg1 w4 Bs hlb; have Gs := ge_new H3 hg1; clear hg1; have H4 := H3.below hlb; replace Bf := Bf.below hlb; replace Bn := Bn.below hlb; replace Be := Be.below hlb; clear hlb)
    | ((with_reducible refine gate_dst (N := 11) rfl ?_); refine seg_new rfl (N := 11) rfl [.pointer (some ⟨sb, 0, none⟩), .int .i64 0, .int .u64 0, .int .u64 0, .int .u64 0, .int .u64 0, .int .u64 0, .int .u64 0, .bool false, .slice none 0 0, .slice none 0 0] 75 ?hr ?_; (case hr => rfl); intro rb hg1 w5 Br hlb; have Gr := ge_new H4 hg1; clear hg1; have H5 := H4.below hlb; replace Bf := Bf.below hlb; replace Bn := Bn.below hlb; replace Be := Be.below hlb; replace Bs := Bs.below hlb; clear hlb)
    | ((go_at_call 34); (with_reducible refine (frame_calls w _ sb rb l _ hR Br ⟨Gs, A, c, Bs, hr, hc⟩ H5 hb Gr hl).mono ?_); rintro e w6 ⟨hK, hP⟩; obtain ⟨rfl, dv, sv, Br6, O6, R6, S6⟩ := hP))
  have hfs : gf ≠ sb := blk_ne_of Bf Bs (by decide)
  have hfr : gf ≠ rb := blk_ne_of Bf Br (by decide)
  have hns : gn ≠ sb := blk_ne_of Bn Bs (by decide)
  have hnr : gn ≠ rb := blk_ne_of Bn Br (by decide)
  have hes : ge ≠ sb := blk_ne_of Be Bs (by decide)
  have her : ge ≠ rb := blk_ne_of Be Br (by decide)
  have hef : ge ≠ gf := blk_ne_of Be Bf (by decide)
  have hen : ge ≠ gn := blk_ne_of Be Bn (by decide)
  have hnf : gn ≠ gf := blk_ne_of Bn Bf (by decide)
  replace Bf := Bf.kept hK hfs hfr
  replace Bn := Bn.kept hK hns hnr
  replace Be := Be.kept hK hes her
  have H6 := H5.kept hK Gs Gr
  clear hK Bs Br H5 H4 H3 H2 H1
  obtain ⟨hgs, A6, cc6, Bs6, _, _⟩ := S6
  obtain ⟨Ad, cd, rfl⟩ := Kd.R_slice O6.out
  obtain ⟨As, cs, rfl⟩ := Kd.R_slice R6.to
  -- REGION
  refine start_ (n := 18) (S := fun w' => Blk w' rb 75 (cellsR sb K f fin (.slice Ad d.length cd) (.slice As s.length cs)) ∧ Blk w' sb 73 [.slice A6 r.length cc6]) (ds := []) (bs 18 0) (by kernel_rfl) rfl rfl ⟨Br6.drew, Bs6.drew⟩ (fun hHeld => ?_)
  replace Br6 := Br6.drew; replace Bs6 := Bs6.drew; replace Bf := Bf.drew; replace Bn := Bn.drew; replace Be := Be.drew; replace O6 : OW w w6.drew _ _ := O6.below (below_drew1 (Below.refl _ _)); replace R6 := R6.below (below_drew1 (Below.refl _ _)); replace H6 := H6.drew
  generalize World.drew w6 = w6 at *
  refine pure_ (i := 0) (N := some 14) (v := ?_) (a' := ?_) (bs 18 1) rfl rfl (by kernel_rfl) (fun c a w h => hQ17 14 (by decide) _ c a w h) (Or.inl ⟨by rfl, ?_⟩) ?_ ?_
  rotate_left
  · intro w'
    go_simp
    with_reducible rfl
  rotate_left
  · simp only [Act.put, qA_, q0_, q1_, i64_w, i32_w]
    rfl
  refine pure_ (i := 1) (N := some 15) (v := ?_) (a' := ?_) (bs 18 3) rfl rfl (by kernel_rfl) (fun c a w h => hQ17 15 (by decide) _ c a w h) (Or.inl ⟨by rfl, ?_⟩) ?_ ?_
  rotate_left
  · intro w'
    go_simp
    with_reducible rfl
  rotate_left
  · simp only [Act.put, qA_, q0_, q1_, i64_w, i32_w]
    rfl
  refine pure_ (i := 2) (N := some 16) (v := ?_) (a' := ?_) (bs 18 7) rfl rfl (by kernel_rfl) (fun c a w h => hQ17 16 (by decide) _ c a w h) (Or.inl ⟨by rfl, ?_⟩) ?_ ?_
  rotate_left
  · intro w'
    go_simp
    with_reducible rfl
  rotate_left
  · simp only [Act.put, qA_, q0_, q1_, i64_w, i32_w]
    rfl
  refine take_ (i := 3) (N := some 17) (v := .agg #[.int .i64 K, .int .u64 (f 1), .int .u64 (f 2), .int .u64 (f 3), .int .u64 (f 4), .int .u64 (f 5), .int .u64 (f 6), .bool fin, .slice Ad d.length cd, .slice As s.length cs]) (a' := ?_) (bs 18 15) rfl rfl (by kernel_rfl) (fun c a w h => hQ17 17 (by decide) _ c a w h) (Or.inl ⟨by rfl, ?_⟩) hHeld ?_ ?_
  · intro w' hs
    exact exec_seg_load 27 (.tmp 16) (by rfl) rb 1 [.int .i64 K, .int .u64 (f 1), .int .u64 (f 2), .int .u64 (f 3), .int .u64 (f 4), .int .u64 (f 5), .int .u64 (f 6), .bool fin, .slice Ad d.length cd, .slice As s.length cs] (by rfl) hs.1 (by rfl) Try.underlying27 rfl (by kernel_rfl)
  rotate_left
  · simp only [Act.put, qA_, q0_, q1_, i64_w, i32_w]
    rfl
  refine pure_ (i := 4) (N := some 18) (v := ?_) (a' := ?_) (bs 18 31) rfl rfl (by kernel_rfl) (fun c a w h => hQ17 18 (by decide) _ c a w h) (Or.inl ⟨by rfl, ?_⟩) ?_ ?_
  rotate_left
  · intro w'
    go_simp
    with_reducible rfl
  rotate_left
  · simp only [Act.put, qA_, q0_, q1_, i64_w, i32_w]
    rfl
  refine pure_ (i := 5) (N := some 19) (v := ?_) (a' := ?_) (bs 18 63) rfl rfl (by kernel_rfl) (fun c a w h => hQ17 19 (by decide) _ c a w h) (Or.inl ⟨by rfl, ?_⟩) ?_ ?_
  rotate_left
  · intro w'
    go_simp
    with_reducible rfl
  rotate_left
  · simp only [Act.put, qA_, q0_, q1_, i64_w, i32_w]
    rfl
  refine pure_ (i := 6) (N := some 20) (v := ?_) (a' := ?_) (bs 18 127) rfl rfl (by kernel_rfl) (fun c a w h => hQ17 20 (by decide) _ c a w h) (Or.inl ⟨by rfl, ?_⟩) ?_ ?_
  rotate_left
  · intro w'
    go_simp
    with_reducible rfl
  rotate_left
  · simp only [Act.put, qA_, q0_, q1_, i64_w, i32_w]
    rfl
  refine pure_ (i := 7) (N := some 21) (v := ?_) (a' := ?_) (bs 18 255) rfl rfl (by kernel_rfl) (fun c a w h => hQ17 21 (by decide) _ c a w h) (Or.inl ⟨by rfl, ?_⟩) ?_ ?_
  rotate_left
  · intro w'
    go_simp
    with_reducible rfl
  rotate_left
  · simp only [Act.put, qA_, q0_, q1_, i64_w, i32_w]
    rfl
  refine pure_ (i := 8) (N := some 22) (v := ?_) (a' := ?_) (bs 18 511) rfl rfl (by kernel_rfl) (fun c a w h => hQ17 22 (by decide) _ c a w h) (Or.inl ⟨by rfl, ?_⟩) ?_ ?_
  rotate_left
  · intro w'
    go_simp
    with_reducible rfl
  rotate_left
  · simp only [Act.put, qA_, q0_, q1_, i64_w, i32_w]
    rfl
  refine take_ (i := 9) (N := some 23) (v := ?_) (a' := ?_) (bs 18 1023) rfl rfl (by kernel_rfl) (fun c a w h => hQ17 23 (by decide) _ c a w h) (Or.inl ⟨by rfl, ?_⟩) hHeld ?_ ?_
  rotate_left
  · intro w' hs
    have s0 := hs.1.at 0 rfl
    have s1 := hs.2.at 0 rfl
    go_simp
    with_reducible rfl
  rotate_left
  · simp only [Act.put, qA_, q0_, q1_, i64_w, i32_w]
    rfl
  refine pure_ (i := 10) (N := some 24) (v := ?_) (a' := ?_) (bs 18 2047) rfl rfl (by kernel_rfl) (fun c a w h => hQ17 24 (by decide) _ c a w h) (Or.inl ⟨by rfl, ?_⟩) ?_ ?_
  rotate_left
  · intro w'
    go_simp
    with_reducible rfl
  rotate_left
  · simp only [Act.put, qA_, q0_, q1_, i64_w, i32_w]
    rfl
  refine pure_ (i := 11) (N := some 25) (v := ?_) (a' := ?_) (bs 18 4095) rfl rfl (by kernel_rfl) (fun c a w h => hQ17 25 (by decide) _ c a w h) (Or.inl ⟨by rfl, ?_⟩) ?_ ?_
  rotate_left
  · intro w'
    go_simp
    with_reducible rfl
  rotate_left
  · simp only [Act.put, qA_, q0_, q1_, i64_w, i32_w]
    rfl
  refine take_ (i := 12) (N := some 26) (v := ?_) (a' := ?_) (bs 18 8191) rfl rfl (by kernel_rfl) (fun c a w h => hQ17 26 (by decide) _ c a w h) (Or.inl ⟨by rfl, ?_⟩) hHeld ?_ ?_
  rotate_left
  · intro w' hs
    have s0 := hs.1.at 0 rfl
    have s1 := hs.2.at 0 rfl
    go_simp
    with_reducible rfl
  rotate_left
  · simp only [Act.put, qA_, q0_, q1_, i64_w, i32_w]
    rfl
  refine pure_ (i := 13) (N := some 27) (v := ?_) (a' := ?_) (bs 18 16383) rfl rfl (by kernel_rfl) (fun c a w h => hQ17 27 (by decide) _ c a w h) (Or.inl ⟨by rfl, ?_⟩) ?_ ?_
  rotate_left
  · intro w'
    go_simp
    with_reducible rfl
  rotate_left
  · simp only [Act.put, qA_, q0_, q1_, i64_w, i32_w]
    rfl
  refine pure_ (i := 14) (N := some 28) (v := ?_) (a' := ?_) (bs 18 32767) rfl rfl (by kernel_rfl) (fun c a w h => hQ17 28 (by decide) _ c a w h) (Or.inl ⟨by rfl, ?_⟩) ?_ ?_
  rotate_left
  · intro w'
    go_simp
    with_reducible rfl
  rotate_left
  · simp only [Act.put, qA_, q0_, q1_, i64_w, i32_w]
    rfl
  refine one_ (i := 15) (N := none) (bs 18 65535) rfl rfl (by kernel_rfl) (by decide) (fun K' hK => ?_)
  refine skip_seg (by rfl) rfl 27 (.tmp 2) (.tmp 17) rfl gf 0 [.int .i64 K, .int .u64 (f 1), .int .u64 (f 2), .int .u64 (f 3), .int .u64 (f 4), .int .u64 (f 5), .int .u64 (f 6), .bool fin, .slice Ad d.length cd, .slice As s.length cs] [.int .i64 K, .int .u64 (f 1), .int .u64 (f 2), .int .u64 (f 3), .int .u64 (f 4), .int .u64 (f 5), .int .u64 (f 6), .bool fin, .slice Ad d.length cd, .slice As s.length cs] _ rfl rfl rfl Bf (by kernel_rfl) (nle rfl) rfl rfl ?_
  intro w7 Bf7 hg7
  have Br7 := Br6.grown hg7 hfr.symm; have Bs7 := Bs6.grown hg7 hfs.symm; have Bn7 := Bn.grown hg7 hnf; have Be7 := Be.grown hg7 hef; have O7 := O6.grown Bf (by decide) hg7; have R7 := R6.grown Bf (by decide) hg7; have H7 := H6.grown hg7 Gf
  refine hK.out _ _ ⟨Br7, Bs7⟩ (fun hHeld => ?_)
  clear hK Br6 Bs6 Bf Bn Be O6 R6 H6 hg7
  have c2 := Bn7.at 0 rfl; have f2 := Bn7.frozen 0
  refine one_ (i := 16) (N := none) (bs 18 131071) rfl rfl (by kernel_rfl) (by decide) (fun K' hK => ?_)
  refine skip_ (w1 := World.setCell w7 ⟨gn, 0, none⟩ (.int .i64 ((l.length : Int) - (r.length : Int)))) (by rfl) rfl (by first | (go_simp; done) | (go_simp; rfl)) ?_
  refine hK.out _ _ ⟨Br7.setFar hnr.symm, Bs7.setFar hns.symm⟩ (fun hHeld => ?_)
  have Br8 := Br7.setFar (i := 0) (u := .int .i64 ((l.length : Int) - (r.length : Int))) hnr.symm; have Bs8 := Bs7.setFar (i := 0) (u := .int .i64 ((l.length : Int) - (r.length : Int))) hns.symm; have Bn8 := Bn7.set 0 (.int .i64 ((l.length : Int) - (r.length : Int))) rfl; have Bf8 := Bf7.setFar (i := 0) (u := .int .i64 ((l.length : Int) - (r.length : Int))) hnf.symm; have Be8 := Be7.setFar (i := 0) (u := .int .i64 ((l.length : Int) - (r.length : Int))) hen; have O8 := O7.set Bn7 (by decide) 0 (.int .i64 ((l.length : Int) - (r.length : Int))); have R8 := R7.setFar (i := 0) (u := .int .i64 ((l.length : Int) - (r.length : Int))) Bn7 (by decide); have H8 := H7.set (i := 0) (u := .int .i64 ((l.length : Int) - (r.length : Int))) Gn
  clear hK Br7 Bs7 Bf7 Bn7 Be7 O7 R7 H7 c2 f2
  generalize World.setCell w7 ⟨gn, 0, none⟩ (.int .i64 ((l.length : Int) - (r.length : Int))) = w8 at *
  have c3 := Be8.at 0 rfl; have f3 := Be8.frozen 0
  refine one_ (i := 17) (N := none) (bs 18 262143) rfl rfl (by kernel_rfl) (by decide) (fun K' hK => ?_)
  refine skip_ (w1 := World.setCell w8 ⟨ge, 0, none⟩ (.int .i64 0)) (by rfl) rfl (by first | (go_simp; done) | (go_simp; rfl)) ?_
  refine hK.out _ _ ⟨Br8.setFar her.symm, Bs8.setFar hes.symm⟩ (fun hHeld => ?_)
  have Bn9 := Bn8.setFar (i := 0) (u := .int .i64 0) hen.symm; have Bf9 := Bf8.setFar (i := 0) (u := .int .i64 0) hef.symm; have Be9 := Be8.set 0 (.int .i64 0) rfl; have O9 := O8.set Be8 (by decide) 0 (.int .i64 0); have R9 := R8.setFar (i := 0) (u := .int .i64 0) Be8 (by decide); have H9 := H8.set (i := 0) (u := .int .i64 0) Ge
  clear hK Br8 Bs8 Bf8 Bn8 Be8 O8 R8 H8 c3 f3
  generalize World.setCell w8 ⟨ge, 0, none⟩ (.int .i64 0) = w9 at *
  refine done_ (by kernel_rfl) ?_
  go_wp2
  refine leaves_cons (f := 32) (args := #[.pointer (some ⟨ge, 0, none⟩), .pointer (some ⟨gf, 0, none⟩), .pointer (some ⟨gn, 0, none⟩)]) (by simp) (by simp [go_sem]) ?_
  refine (clos_idle ge gf gn 0 w9 Be9).mono ?_
  rintro e u' w10 ⟨rfl, rfl, rfl⟩
  have Bn10 := Bn9.setFar (i := 0) (u := .int .i64 0) hen.symm; have Bf10 := Bf9.setFar (i := 0) (u := .int .i64 0) hef.symm; have Be10 := Be9.set 0 (.int .i64 0) rfl; have O10 := O9.set Be9 (by decide) 0 (.int .i64 0); have R10 := R9.setFar (i := 0) (u := .int .i64 0) Be9 (by decide); have H10 := H9.set (i := 0) (u := .int .i64 0) Ge
  generalize World.setCell w9 ⟨ge, 0, none⟩ (.int .i64 0) = w10 at *
  have d0 := Bf10.at 0 rfl; have d1 := Bf10.at 1 rfl; have d2 := Bf10.at 2 rfl; have d3 := Bf10.at 3 rfl; have d4 := Bf10.at 4 rfl; have d5 := Bf10.at 5 rfl; have d6 := Bf10.at 6 rfl; have d7 := Bf10.at 7 rfl; have d8 := Bf10.at 8 rfl; have d9 := Bf10.at 9 rfl
  have c1 := Be10.at 0 rfl
  have c2 := Bn10.at 0 rfl
  simp [Leaves, settle, results, Try.func17, go_sem, c1, c2, d0, d1, d2, d3, d4, d5, d6, d7, d8, d9]
  exact ⟨_, _, ⟨rfl, rfl⟩, O10, R10, H10⟩
theorem uNum_suffix {l l' : List Int} {v : Int} (hb : bytesOk l = true) (h : uNum l = some (v, l')) : l' <:+ l ∧ l'.length < l.length ∧ bytesOk l' = true := by
  obtain ⟨_, h1, h2, h3, _⟩ := uNum_some hb h
  exact ⟨h3 ▸ List.drop_suffix _ _, h2, h1⟩
theorem rRounds_suffix : ∀ (k : Nat) (tp : Int) (s : List S47) (l : List Int) {s' : List S47} {l' : List Int}, bytesOk l = true → rRounds k tp s l = some (s', l') → l' <:+ l
  | 0, tp, s, l, s', l', hb, h => by
    simp only [rRounds, Option.some.injEq, Prod.mk.injEq] at h
    obtain ⟨rfl, rfl⟩ := h
    exact List.suffix_refl _
  | k + 1, tp, [], l, s', l', hb, h => by
    unfold rRounds at h
    cases hN : uNum l with
    | none => rw [hN] at h; cases h
    | some r =>
      rw [hN, Option.bind_some] at h
      obtain ⟨v, l1⟩ := r
      obtain ⟨hs, _, hb1⟩ := uNum_suffix hb hN
      split at h
      · exact (rRounds_suffix k _ _ l1 hb1 h).trans hs
      · cases h
  | k + 1, tp, x :: s, l, s', l', hb, h => by
    unfold rRounds at h
    cases hN : uNum l with
    | none => rw [hN] at h; cases h
    | some r =>
      rw [hN, Option.bind_some] at h
      obtain ⟨v, l1⟩ := r
      obtain ⟨hs, _, hb1⟩ := uNum_suffix hb hN
      split at h
      · cases hN1 : uNum l1 with
        | none => rw [hN1] at h; cases h
        | some r =>
          rw [hN1, Option.bind_some] at h
          obtain ⟨v, l2⟩ := r
          obtain ⟨hs1, _, hb2⟩ := uNum_suffix hb1 hN1
          split at h
          · exact ((rRounds_suffix k _ _ l2 hb2 h).trans hs1).trans hs
          · cases h
      · cases h
theorem rSp_suffix {l l' : List Int} {s : List S47} (hb : bytesOk l = true) (h : rSp l = some (s, l')) : l' <:+ l ∧ bytesOk l' = true := by
  refine ⟨?_, (rSp_len hb h).2.1⟩
  unfold rSp at h
  cases hN : uNum l with
  | none => rw [hN] at h; cases h
  | some r =>
    rw [hN, Option.bind_some] at h
    obtain ⟨v, l1⟩ := r
    obtain ⟨hs, _, hb1⟩ := uNum_suffix hb hN
    split at h
    · cases hN1 : uNum l1 with
      | none => rw [hN1] at h; cases h
      | some r =>
        rw [hN1, Option.bind_some] at h
        obtain ⟨v, l2⟩ := r
        obtain ⟨hs1, _, hb2⟩ := uNum_suffix hb1 hN1
        exact ((rRounds_suffix _ _ _ _ hb2 h).trans hs1).trans hs
    · cases h
theorem rNums_suffix : ∀ (os : List Nat) (f : Nat → Int) (l : List Int) {f' : Nat → Int} {l' : List Int}, bytesOk l = true → rNums os f l = some (f', l') → l' <:+ l ∧ bytesOk l' = true
  | [], f, l, f', l', hb, h => by
    simp only [rNums, Option.some.injEq, Prod.mk.injEq] at h
    obtain ⟨rfl, rfl⟩ := h
    exact ⟨List.suffix_refl _, hb⟩
  | o :: os, f, l, f', l', hb, h => by
    unfold rNums at h
    cases hN : uNum l with
    | none => rw [hN] at h; cases h
    | some r =>
      rw [hN, Option.bind_some] at h
      obtain ⟨v, l1⟩ := r
      obtain ⟨hs, _, hb1⟩ := uNum_suffix hb hN
      obtain ⟨h1, h2⟩ := rNums_suffix os _ l1 hb1 h
      exact ⟨h1.trans hs, h2⟩
theorem rChk_some {K : Int} {fin : Bool} {s : List S47} {f : Nat → Int} {d l : List Int} {x : FrV} (h : rChk K fin s f d l = some x) : uChk K (f 1) (f 2) (f 3) (f 4) (f 5) (f 6) fin d.length s = 0 ∧ x = (K, f, fin, d, s, l) := by
  unfold rChk at h
  split at h
  · exact ⟨by assumption, (Option.some.inj h).symm⟩
  · cases h
theorem rEnd_suffix {K K' : Int} {fin fin' : Bool} {s s' : List S47} {f f' : Nat → Int} {l d r : List Int} (hb : bytesOk l = true) (h : rEnd K fin s f l = some (K', f', fin', d, s', r)) : r <:+ l ∧ bytesOk r = true := by
  unfold rEnd at h
  split at h
  · cases hN : uNum l with
    | none => rw [hN] at h; cases h
    | some q =>
      rw [hN, Option.bind_some] at h
      obtain ⟨v, l1⟩ := q
      obtain ⟨hs, _, hb1⟩ := uNum_suffix hb hN
      split at h
      · obtain ⟨_, e⟩ := rChk_some h
        simp only [Prod.mk.injEq] at e
        obtain ⟨-, -, -, -, -, rfl⟩ := e
        exact ⟨(List.drop_suffix _ _).trans hs, bytes_drop hb1 _⟩
      · cases h
  · obtain ⟨_, e⟩ := rChk_some h
    simp only [Prod.mk.injEq] at e
    obtain ⟨-, -, -, -, -, rfl⟩ := e
    exact ⟨List.suffix_refl _, hb⟩
theorem rKind_suffix {K K' : Int} {fin fin' : Bool} {s' : List S47} {f' : Nat → Int} {l d r : List Int} (hb : bytesOk l = true) (h : rKind K fin l = some (K', f', fin', d, s', r)) : r <:+ l ∧ bytesOk r = true := by
  unfold rKind at h
  split at h
  · cases h
  · rename_i os ho
    split at h
    · cases hs : rSp l with
      | none => rw [hs] at h; cases h
      | some q =>
        obtain ⟨s, l1⟩ := q
        rw [hs, Option.bind_some] at h
        obtain ⟨h1, hb1⟩ := rSp_suffix hb hs
        cases hn : rNums os (fun _ => 0) l1 with
        | none => simp only [hn] at h; cases h
        | some q =>
          obtain ⟨f1, l2⟩ := q
          simp only [hn, Option.bind_some] at h
          obtain ⟨h2, hb2⟩ := rNums_suffix _ _ _ hb1 hn
          obtain ⟨h3, hb3⟩ := rEnd_suffix hb2 h
          exact ⟨(h3.trans h2).trans h1, hb3⟩
    · cases hn : rNums os (fun _ => 0) l with
      | none => rw [hn] at h; cases h
      | some q =>
        obtain ⟨f1, l2⟩ := q
        rw [hn, Option.bind_some] at h
        obtain ⟨h2, hb2⟩ := rNums_suffix _ _ _ hb hn
        obtain ⟨h3, hb3⟩ := rEnd_suffix hb2 h
        exact ⟨h3.trans h2, hb3⟩
theorem rFr_suffix {K' : Int} {fin' : Bool} {s' : List S47} {f' : Nat → Int} {l d r : List Int} (hb : bytesOk l = true) (h : rFr l = some (K', f', fin', d, s', r)) : r <:+ l ∧ bytesOk r = true ∧ r.length < l.length := by
  unfold rFr at h
  cases hN : uNum l with
  | none => rw [hN] at h; cases h
  | some q =>
    rw [hN, Option.bind_some] at h
    obtain ⟨v, l1⟩ := q
    obtain ⟨hs, hlt, hb1⟩ := uNum_suffix hb hN
    have : r <:+ l1 ∧ bytesOk r = true := by
      split at h
      · split at h
        · exact rKind_suffix hb1 h
        · exact rKind_suffix hb1 h
      · cases h
    exact ⟨this.1.trans hs, this.2, by have := this.1.length_le; omega⟩

end Go.Proofs.Ytphakdfholkbdaa
