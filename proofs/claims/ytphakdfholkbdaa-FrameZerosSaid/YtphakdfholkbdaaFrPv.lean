import Derived.Outline
import Derived.Handy
import Derived.Recover
import Derived.WalkSmall
import Derived.Laws.Externs
import Derived.Laws.CopyOwn
import Derived.Lib.AppendZerosOnto
import Derived.Lib.Overlaps
import Derived.Deep.RegionLaw
import Derived.Test.YtphakdfholkbdaaPFrax0
import Derived.Test.YtphakdfholkbdaaNum
import Derived.Test.YtphakdfholkbdaaSeg
import Derived.Test.YtphakdfholkbdaaFraB
import Derived.Test.YtphakdfholkbdaaFrPu
namespace Go.Proofs.Ytphakdfholkbdaa
open Go.Proofs.Ytphakdfholkbdaa.PFra Go.RowKit Go.Proofs.YtphakdfholkbdaaW.PrintWords Go.Proofs.YtphakdfholkbdaaW.PrintLast Go.Proofs.YtphakdfholkbdaaW.PrintMore
set_option maxRecDepth 100000
set_option maxHeartbeats 4000000
set_option linter.unusedVariables false
set_option linter.unusedSimpArgs false
theorem Blk.kept {w w1 : World} {g a b : Nat} {t : TypeId} {l : List Value} (h : Blk w g t l) (hk : Kept2 a b w w1) (ha : g ≠ a) (hb : g ≠ b) : Blk w1 g t l := ⟨(hk.block g h.lt ha hb).trans h.out⟩
theorem leaves_tmps {P : Program} {fn : Func} {R : Ending → World → Prop} {t t' : Array Value} (h : ∀ w, (results fn t).run P w = (results fn t').run P w) : ∀ ds u w, Leaves P fn t R ds u w → Leaves P fn t' R ds u w
  | [], .returning, w, hl => by
    obtain ⟨v, hv, hr⟩ := hl
    exact ⟨v, by rw [← h]; exact hv, hr⟩
  | [], .panicking chain, w, hl => hl
  | [], .run, w, hl => hl
  | d :: ds, u, w, hl => by
    obtain ⟨hu, fv, cap, f, args, ht, hi, hc⟩ := hl
    refine ⟨hu, fv, cap, f, args, ht, hi, ?_⟩
    refine hc.mono ?_
    intro e u' w' hh
    cases e with
    | returned v => exact leaves_tmps h ds _ _ hh
    | panicked c => exact leaves_tmps h ds _ _ hh
    | outgrown => exact hh
theorem hQ17 {K : Act → World → Prop} {R : Ending → World → Prop} (N : Nat) (hN : N ≠ 2 ∧ N ≠ 3 ∧ N ≠ 4) (v : Value) (c : List PanicEntry) (a : Act) (w : World) (h : Exit.then K (bodyPostD Try.prog Try.f17 R) (.panic c) (a.put (some N) v) w) : Exit.then K (bodyPostD Try.prog Try.f17 R) (.panic c) a w := by
  obtain ⟨h2, h3, h4⟩ := hN
  refine leaves_tmps (t := (a.put (some N) v).tmps) (fun w => ?_) _ _ _ h
  have e : ∀ k, N ≠ k → ((a.put (some N) v).tmps)[k]?.getD undef = (a.tmps)[k]?.getD undef := fun k hk => by simp [Act.put, Array.getElem?_setIfInBounds_ne, hk]
  simp [results, Try.f17, e 2 h2, e 3 h3, e 4 h4]
abbrev PaV := Int × Int × Int × Int × Int × Int × Int × Bool × List Int × List S47 × Int × Int
/-- What frame.Parse answers. -/
def uParse (l : List Int) : PaV := match rFr l with
  | none => (0, 0, 0, 0, 0, 0, 0, false, [], [], 0, 50)
  | some (K, f, fin, d, s, r) => (K, f 1, f 2, f 3, f 4, f 5, f 6, fin, d, s, (l.length : Int) - r.length, 0)
theorem parse_no (A : Option Addr) (c : Nat) (l : List Int) (w : World) (hr : Kd.C (Kd.int .u8) w A l.length l) (hc : l.length ≤ c) (hb : bytesOk l = true) (hl : l.length < 1000000) (hR : rFr l = none) :
    Calls Try.prog 17 #[.slice A l.length c] w fun e w' => e = .returned (.tuple #[.agg #[.int .i64 0, .int .u64 0, .int .u64 0, .int .u64 0, .int .u64 0, .int .u64 0, .int .u64 0, .bool false, .slice none 0 0, .slice none 0 0], .int .i64 0, .int .i64 50]) ∧ Since w w' := by
  have hmf : ∀ (fn : Fn) (first cap : Array Value) (w : World), (Instr.makeFunc fn first cap).run Try.prog w = .ok (.func fn first cap) w := fun _ _ _ _ => rfl
  have H0 := Since.refl w
  go_enter_defers Try.func17, Try.ntmps17
  go_wp2_with (first
    | ((with_reducible refine gate_dst (N := 2) rfl ?_); refine seg_new rfl (N := 2) rfl [.int .i64 0, .int .u64 0, .int .u64 0, .int .u64 0, .int .u64 0, .int .u64 0, .int .u64 0, .bool false, .slice none 0 0, .slice none 0 0] 27 ?hr ?_; (case hr => rfl); intro gf hg1 w1 Bf hlb; have Gf := ge_new H0 hg1; clear hg1; have H1 := H0.below hlb; clear hlb)
    | ((with_reducible refine gate_dst (N := 3) rfl ?_); refine seg_new rfl (N := 3) rfl [.int .i64 0] 3 ?hr ?_; (case hr => rfl); intro gn hg1 w2 Bn hlb; have Gn := ge_new H1 hg1; clear hg1; have H2 := H1.below hlb; replace Bf := Bf.below hlb; clear hlb)
    | ((with_reducible refine gate_dst (N := 4) rfl ?_); refine seg_new rfl (N := 4) rfl [.int .i64 0] 29 ?hr ?_; (case hr => rfl); intro ge hg1 w3 Be hlb; have Ge := ge_new H2 hg1; clear hg1; have H3 := H2.below hlb; replace Bf := Bf.below hlb; replace Bn := Bn.below hlb; clear hlb)
    | ((with_reducible refine gate_dst (N := 9) rfl ?_); refine seg_new rfl (N := 9) rfl [.slice A l.length c] 73 ?hr ?_; (case hr => rfl); intro sb hg1 w4 Bs hlb; have Gs := ge_new H3 hg1; clear hg1; have H4 := H3.below hlb; replace Bf := Bf.below hlb; replace Bn := Bn.below hlb; replace Be := Be.below hlb; clear hlb)
    | ((with_reducible refine gate_dst (N := 11) rfl ?_); refine seg_new rfl (N := 11) rfl [.pointer (some ⟨sb, 0, none⟩), .int .i64 0, .int .u64 0, .int .u64 0, .int .u64 0, .int .u64 0, .int .u64 0, .int .u64 0, .bool false, .slice none 0 0, .slice none 0 0] 75 ?hr ?_; (case hr => rfl); intro rb hg1 w5 Br hlb; have Gr := ge_new H4 hg1; clear hg1; have H5 := H4.below hlb; replace Bf := Bf.below hlb; replace Bn := Bn.below hlb; replace Be := Be.below hlb; replace Bs := Bs.below hlb; clear hlb)
    | ((go_at_call 34); (with_reducible refine (frame_calls w _ sb rb l none hR Br ⟨Gs, A, c, Bs, hr, hc⟩ H5 hb Gr hl).mono ?_); rintro e w6 ⟨hK, hP⟩; have hP : Gave e := hP; unfold Gave at hP; subst hP))
  have hfs : gf ≠ sb := blk_ne_of Bf Bs (by decide)
  have hfr : gf ≠ rb := blk_ne_of Bf Br (by decide)
  have hns : gn ≠ sb := blk_ne_of Bn Bs (by decide)
  have hnr : gn ≠ rb := blk_ne_of Bn Br (by decide)
  have hes : ge ≠ sb := blk_ne_of Be Bs (by decide)
  have her : ge ≠ rb := blk_ne_of Be Br (by decide)
  have hef : ge ≠ gf := blk_ne_of Be Bf (by decide)
  have hen : ge ≠ gn := blk_ne_of Be Bn (by decide)
  have hnf : gn ≠ gf := blk_ne_of Bn Bf (by decide)
  replace Bf := Bf.kept hK hfs hfr
  replace Bn := Bn.kept hK hns hnr
  replace Be := Be.kept hK hes her
  have H6 := H5.kept hK Gs Gr
  clear hK Bs Br H5 H4 H3 H2 H1
  refine leaves_cons (f := 32) (args := #[.pointer (some ⟨ge, 0, none⟩), .pointer (some ⟨gf, 0, none⟩), .pointer (some ⟨gn, 0, none⟩)]) (by simp) (by simp [go_sem]) ?_
  refine (clos_gave ge gf gn 0 0 _ rfl w6 Be Bf Bn).mono ?_
  rintro e u' w7 ⟨rfl, rfl, Be7, Bf7, Bn7, HS⟩
  have H7 := HS w H6 Ge Gf Gn
  have d0 := Bf7.at 0 rfl; have d1 := Bf7.at 1 rfl; have d2 := Bf7.at 2 rfl; have d3 := Bf7.at 3 rfl; have d4 := Bf7.at 4 rfl; have d5 := Bf7.at 5 rfl; have d6 := Bf7.at 6 rfl; have d7 := Bf7.at 7 rfl; have d8 := Bf7.at 8 rfl; have d9 := Bf7.at 9 rfl
  have c1 := Be7.at 0 rfl
  have c2 := Bn7.at 0 rfl
  simp [Leaves, settle, results, Try.func17, go_sem, c1, c2, d0, d1, d2, d3, d4, d5, d6, d7, d8, d9]
  exact H7
theorem parse_ok (A : Option Addr) (c : Nat) (l : List Int) (w : World) (hr : Kd.C (Kd.int .u8) w A l.length l) (hc : l.length ≤ c) (hb : bytesOk l = true) (hl : l.length < 1000000) (K : Int) (f : Nat → Int) (fin : Bool) (d : List Int) (s : List S47) (r : List Int) (hR : rFr l = some (K, f, fin, d, s, r)) (hwl : IntKind.i64.wrap ((l.length : Int) - (r.length : Int)) = (l.length : Int) - r.length) :
    Calls Try.prog 17 #[.slice A l.length c] w fun e w' => ∃ dv sv, e = .returned (.tuple #[.agg #[.int .i64 K, .int .u64 (f 1), .int .u64 (f 2), .int .u64 (f 3), .int .u64 (f 4), .int .u64 (f 5), .int .u64 (f 6), .bool fin, dv, sv], .int .i64 ((l.length : Int) - r.length), .int .i64 0]) ∧ OW w w' dv d ∧ SR w.heap.size w' sv s ∧ Since w w' := by
  have hmf : ∀ (fn : Fn) (first cap : Array Value) (w : World), (Instr.makeFunc fn first cap).run Try.prog w = .ok (.func fn first cap) w := fun _ _ _ _ => rfl
  have H0 := Since.refl w
  go_enter_defers Try.func17, Try.ntmps17
  go_wp2_with (first
    | ((with_reducible refine gate_dst (N := 2) rfl ?_); refine seg_new rfl (N := 2) rfl [.int .i64 0, .int .u64 0, .int .u64 0, .int .u64 0, .int .u64 0, .int .u64 0, .int .u64 0, .bool false, .slice none 0 0, .slice none 0 0] 27 ?hr ?_; (case hr => rfl); intro gf hg1 w1 Bf hlb; have Gf := ge_new H0 hg1; clear hg1; have H1 := H0.below hlb; clear hlb)
    | ((with_reducible refine gate_dst (N := 3) rfl ?_); refine seg_new rfl (N := 3) rfl [.int .i64 0] 3 ?hr ?_; (case hr => rfl); intro gn hg1 w2 Bn hlb; have Gn := ge_new H1 hg1; clear hg1; have H2 := H1.below hlb; replace Bf := Bf.below hlb; clear hlb)
    | ((with_reducible refine gate_dst (N := 4) rfl ?_); refine seg_new rfl (N := 4) rfl [.int .i64 0] 29 ?hr ?_; (case hr => rfl); intro ge hg1 w3 Be hlb; have Ge := ge_new H2 hg1; clear hg1; have H3 := H2.below hlb; replace Bf := Bf.below hlb; replace Bn := Bn.below hlb; clear hlb)
    | ((with_reducible refine gate_dst (N := 9) rfl ?_); refine seg_new rfl (N := 9) rfl [.slice A l.length c] 73 ?hr ?_; (case hr => rfl); intro sb hg1 w4 Bs hlb; have Gs := ge_new H3 hg1; clear hg1; have H4 := H3.below hlb; replace Bf := Bf.below hlb; replace Bn := Bn.below hlb; replace Be := Be.below hlb; clear hlb)
    | ((with_reducible refine gate_dst (N := 11) rfl ?_); refine seg_new rfl (N := 11) rfl [.pointer (some ⟨sb, 0, none⟩), .int .i64 0, .int .u64 0, .int .u64 0, .int .u64 0, .int .u64 0, .int .u64 0, .int .u64 0, .bool false, .slice none 0 0, .slice none 0 0] 75 ?hr ?_; (case hr => rfl); intro rb hg1 w5 Br hlb; have Gr := ge_new H4 hg1; clear hg1; have H5 := H4.below hlb; replace Bf := Bf.below hlb; replace Bn := Bn.below hlb; replace Be := Be.below hlb; replace Bs := Bs.below hlb; clear hlb)
    | ((go_at_call 34); (with_reducible refine (frame_calls w _ sb rb l _ hR Br ⟨Gs, A, c, Bs, hr, hc⟩ H5 hb Gr hl).mono ?_); rintro e w6 ⟨hK, hP⟩; obtain ⟨rfl, dv, sv, Br6, O6, R6, S6⟩ := hP))
  have hfs : gf ≠ sb := blk_ne_of Bf Bs (by decide)
  have hfr : gf ≠ rb := blk_ne_of Bf Br (by decide)
  have hns : gn ≠ sb := blk_ne_of Bn Bs (by decide)
  have hnr : gn ≠ rb := blk_ne_of Bn Br (by decide)
  have hes : ge ≠ sb := blk_ne_of Be Bs (by decide)
  have her : ge ≠ rb := blk_ne_of Be Br (by decide)
  have hef : ge ≠ gf := blk_ne_of Be Bf (by decide)
  have hen : ge ≠ gn := blk_ne_of Be Bn (by decide)
  have hnf : gn ≠ gf := blk_ne_of Bn Bf (by decide)
  replace Bf := Bf.kept hK hfs hfr
  replace Bn := Bn.kept hK hns hnr
  replace Be := Be.kept hK hes her
  have H6 := H5.kept hK Gs Gr
  clear hK Bs Br H5 H4 H3 H2 H1
  obtain ⟨hgs, A6, cc6, Bs6, _, _⟩ := S6
  obtain ⟨Ad, cd, rfl⟩ := Kd.R_slice O6.out
  obtain ⟨As, cs, rfl⟩ := Kd.R_slice R6.to
  -- REGION
  refine start_ (n := 18) (S := fun w' => Blk w' rb 75 (cellsR sb K f fin (.slice Ad d.length cd) (.slice As s.length cs)) ∧ Blk w' sb 73 [.slice A6 r.length cc6]) (ds := []) (bs 18 0) (by kernel_rfl) rfl rfl ⟨Br6.drew, Bs6.drew⟩ (fun hHeld => ?_)
  replace Br6 := Br6.drew; replace Bs6 := Bs6.drew; replace Bf := Bf.drew; replace Bn := Bn.drew; replace Be := Be.drew; replace O6 : OW w w6.drew _ _ := O6.below (below_drew1 (Below.refl _ _)); replace R6 := R6.below (below_drew1 (Below.refl _ _)); replace H6 := H6.drew
  generalize World.drew w6 = w6 at *
  refine pure_ (i := 0) (N := some 14) (v := ?_) (a' := ?_) (bs 18 1) rfl rfl (by kernel_rfl) (fun c a w h => hQ17 14 (by decide) _ c a w h) (Or.inl ⟨by rfl, ?_⟩) ?_ ?_
  rotate_left
  · intro w'
    go_simp
    with_reducible rfl
  rotate_left
  · simp only [Act.put, qA_, q0_, q1_, i64_w, i32_w]
    rfl
  refine pure_ (i := 1) (N := some 15) (v := ?_) (a' := ?_) (bs 18 3) rfl rfl (by kernel_rfl) (fun c a w h => hQ17 15 (by decide) _ c a w h) (Or.inl ⟨by rfl, ?_⟩) ?_ ?_
  rotate_left
  · intro w'
    go_simp
    with_reducible rfl
  rotate_left
  · simp only [Act.put, qA_, q0_, q1_, i64_w, i32_w]
    rfl
  refine pure_ (i := 2) (N := some 16) (v := ?_) (a' := ?_) (bs 18 7) rfl rfl (by kernel_rfl) (fun c a w h => hQ17 16 (by decide) _ c a w h) (Or.inl ⟨by rfl, ?_⟩) ?_ ?_
  rotate_left
  · intro w'
    go_simp
    with_reducible rfl
  rotate_left
  · simp only [Act.put, qA_, q0_, q1_, i64_w, i32_w]
    rfl
  refine take_ (i := 3) (N := some 17) (v := .agg #[.int .i64 K, .int .u64 (f 1), .int .u64 (f 2), .int .u64 (f 3), .int .u64 (f 4), .int .u64 (f 5), .int .u64 (f 6), .bool fin, .slice Ad d.length cd, .slice As s.length cs]) (a' := ?_) (bs 18 15) rfl rfl (by kernel_rfl) (fun c a w h => hQ17 17 (by decide) _ c a w h) (Or.inl ⟨by rfl, ?_⟩) hHeld ?_ ?_
  · intro w' hs
    exact exec_seg_load 27 (.tmp 16) (by rfl) rb 1 [.int .i64 K, .int .u64 (f 1), .int .u64 (f 2), .int .u64 (f 3), .int .u64 (f 4), .int .u64 (f 5), .int .u64 (f 6), .bool fin, .slice Ad d.length cd, .slice As s.length cs] (by rfl) hs.1 (by rfl) Try.underlying27 rfl (by kernel_rfl)
  rotate_left
  · simp only [Act.put, qA_, q0_, q1_, i64_w, i32_w]
    rfl
  refine pure_ (i := 4) (N := some 18) (v := ?_) (a' := ?_) (bs 18 31) rfl rfl (by kernel_rfl) (fun c a w h => hQ17 18 (by decide) _ c a w h) (Or.inl ⟨by rfl, ?_⟩) ?_ ?_
  rotate_left
  · intro w'
    go_simp
    with_reducible rfl
  rotate_left
  · simp only [Act.put, qA_, q0_, q1_, i64_w, i32_w]
    rfl
  refine pure_ (i := 5) (N := some 19) (v := ?_) (a' := ?_) (bs 18 63) rfl rfl (by kernel_rfl) (fun c a w h => hQ17 19 (by decide) _ c a w h) (Or.inl ⟨by rfl, ?_⟩) ?_ ?_
  rotate_left
  · intro w'
    go_simp
    with_reducible rfl
  rotate_left
  · simp only [Act.put, qA_, q0_, q1_, i64_w, i32_w]
    rfl
  refine pure_ (i := 6) (N := some 20) (v := ?_) (a' := ?_) (bs 18 127) rfl rfl (by kernel_rfl) (fun c a w h => hQ17 20 (by decide) _ c a w h) (Or.inl ⟨by rfl, ?_⟩) ?_ ?_
  rotate_left
  · intro w'
    go_simp
    with_reducible rfl
  rotate_left
  · simp only [Act.put, qA_, q0_, q1_, i64_w, i32_w]
    rfl
  refine pure_ (i := 7) (N := some 21) (v := ?_) (a' := ?_) (bs 18 255) rfl rfl (by kernel_rfl) (fun c a w h => hQ17 21 (by decide) _ c a w h) (Or.inl ⟨by rfl, ?_⟩) ?_ ?_
  rotate_left
  · intro w'
    go_simp
    with_reducible rfl
  rotate_left
  · simp only [Act.put, qA_, q0_, q1_, i64_w, i32_w]
    rfl
  refine pure_ (i := 8) (N := some 22) (v := ?_) (a' := ?_) (bs 18 511) rfl rfl (by kernel_rfl) (fun c a w h => hQ17 22 (by decide) _ c a w h) (Or.inl ⟨by rfl, ?_⟩) ?_ ?_
  rotate_left
  · intro w'
    go_simp
    with_reducible rfl
  rotate_left
  · simp only [Act.put, qA_, q0_, q1_, i64_w, i32_w]
    rfl
  refine take_ (i := 9) (N := some 23) (v := ?_) (a' := ?_) (bs 18 1023) rfl rfl (by kernel_rfl) (fun c a w h => hQ17 23 (by decide) _ c a w h) (Or.inl ⟨by rfl, ?_⟩) hHeld ?_ ?_
  rotate_left
  · intro w' hs
    have s0 := hs.1.at 0 rfl
    have s1 := hs.2.at 0 rfl
    go_simp
    with_reducible rfl
  rotate_left
  · simp only [Act.put, qA_, q0_, q1_, i64_w, i32_w]
    rfl
  refine pure_ (i := 10) (N := some 24) (v := ?_) (a' := ?_) (bs 18 2047) rfl rfl (by kernel_rfl) (fun c a w h => hQ17 24 (by decide) _ c a w h) (Or.inl ⟨by rfl, ?_⟩) ?_ ?_
  rotate_left
  · intro w'
    go_simp
    with_reducible rfl
  rotate_left
  · simp only [Act.put, qA_, q0_, q1_, i64_w, i32_w]
    rfl
  refine pure_ (i := 11) (N := some 25) (v := ?_) (a' := ?_) (bs 18 4095) rfl rfl (by kernel_rfl) (fun c a w h => hQ17 25 (by decide) _ c a w h) (Or.inl ⟨by rfl, ?_⟩) ?_ ?_
  rotate_left
  · intro w'
    go_simp
    with_reducible rfl
  rotate_left
  · simp only [Act.put, qA_, q0_, q1_, i64_w, i32_w]
    rfl
  refine take_ (i := 12) (N := some 26) (v := ?_) (a' := ?_) (bs 18 8191) rfl rfl (by kernel_rfl) (fun c a w h => hQ17 26 (by decide) _ c a w h) (Or.inl ⟨by rfl, ?_⟩) hHeld ?_ ?_
  rotate_left
  · intro w' hs
    have s0 := hs.1.at 0 rfl
    have s1 := hs.2.at 0 rfl
    go_simp
    with_reducible rfl
  rotate_left
  · simp only [Act.put, qA_, q0_, q1_, i64_w, i32_w]
    rfl
  refine pure_ (i := 13) (N := some 27) (v := ?_) (a' := ?_) (bs 18 16383) rfl rfl (by kernel_rfl) (fun c a w h => hQ17 27 (by decide) _ c a w h) (Or.inl ⟨by rfl, ?_⟩) ?_ ?_
  rotate_left
  · intro w'
    go_simp
    with_reducible rfl
  rotate_left
  · simp only [Act.put, qA_, q0_, q1_, i64_w, i32_w]
    rfl
  refine pure_ (i := 14) (N := some 28) (v := ?_) (a' := ?_) (bs 18 32767) rfl rfl (by kernel_rfl) (fun c a w h => hQ17 28 (by decide) _ c a w h) (Or.inl ⟨by rfl, ?_⟩) ?_ ?_
  rotate_left
  · intro w'
    go_simp
    with_reducible rfl
  rotate_left
  · simp only [Act.put, qA_, q0_, q1_, i64_w, i32_w]
    rfl
  refine one_ (i := 15) (N := none) (bs 18 65535) rfl rfl (by kernel_rfl) (by decide) (fun K' hK => ?_)
  refine skip_seg (by rfl) rfl 27 (.tmp 2) (.tmp 17) rfl gf 0 [.int .i64 K, .int .u64 (f 1), .int .u64 (f 2), .int .u64 (f 3), .int .u64 (f 4), .int .u64 (f 5), .int .u64 (f 6), .bool fin, .slice Ad d.length cd, .slice As s.length cs] [.int .i64 K, .int .u64 (f 1), .int .u64 (f 2), .int .u64 (f 3), .int .u64 (f 4), .int .u64 (f 5), .int .u64 (f 6), .bool fin, .slice Ad d.length cd, .slice As s.length cs] _ rfl rfl rfl Bf (by kernel_rfl) (nle rfl) rfl rfl ?_
  intro w7 Bf7 hg7
  have Br7 := Br6.grown hg7 hfr.symm; have Bs7 := Bs6.grown hg7 hfs.symm; have Bn7 := Bn.grown hg7 hnf; have Be7 := Be.grown hg7 hef; have O7 := O6.grown Bf (by decide) hg7; have R7 := R6.grown Bf (by decide) hg7; have H7 := H6.grown hg7 Gf
  refine hK.out _ _ ⟨Br7, Bs7⟩ (fun hHeld => ?_)
  clear hK Br6 Bs6 Bf Bn Be O6 R6 H6 hg7
  have c2 := Bn7.at 0 rfl; have f2 := Bn7.frozen 0
  refine one_ (i := 16) (N := none) (bs 18 131071) rfl rfl (by kernel_rfl) (by decide) (fun K' hK => ?_)
  refine skip_ (w1 := World.setCell w7 ⟨gn, 0, none⟩ (.int .i64 ((l.length : Int) - (r.length : Int)))) (by rfl) rfl (by first | (go_simp; done) | (go_simp; rfl)) ?_
  refine hK.out _ _ ⟨Br7.setFar hnr.symm, Bs7.setFar hns.symm⟩ (fun hHeld => ?_)
  have Br8 := Br7.setFar (i := 0) (u := .int .i64 ((l.length : Int) - (r.length : Int))) hnr.symm; have Bs8 := Bs7.setFar (i := 0) (u := .int .i64 ((l.length : Int) - (r.length : Int))) hns.symm; have Bn8 := Bn7.set 0 (.int .i64 ((l.length : Int) - (r.length : Int))) rfl; have Bf8 := Bf7.setFar (i := 0) (u := .int .i64 ((l.length : Int) - (r.length : Int))) hnf.symm; have Be8 := Be7.setFar (i := 0) (u := .int .i64 ((l.length : Int) - (r.length : Int))) hen; have O8 := O7.set Bn7 (by decide) 0 (.int .i64 ((l.length : Int) - (r.length : Int))); have R8 := R7.setFar (i := 0) (u := .int .i64 ((l.length : Int) - (r.length : Int))) Bn7 (by decide); have H8 := H7.set (i := 0) (u := .int .i64 ((l.length : Int) - (r.length : Int))) Gn
  clear hK Br7 Bs7 Bf7 Bn7 Be7 O7 R7 H7 c2 f2
  generalize World.setCell w7 ⟨gn, 0, none⟩ (.int .i64 ((l.length : Int) - (r.length : Int))) = w8 at *
  have c3 := Be8.at 0 rfl; have f3 := Be8.frozen 0
  refine one_ (i := 17) (N := none) (bs 18 262143) rfl rfl (by kernel_rfl) (by decide) (fun K' hK => ?_)
  refine skip_ (w1 := World.setCell w8 ⟨ge, 0, none⟩ (.int .i64 0)) (by rfl) rfl (by first | (go_simp; done) | (go_simp; rfl)) ?_
  refine hK.out _ _ ⟨Br8.setFar her.symm, Bs8.setFar hes.symm⟩ (fun hHeld => ?_)
  have Bn9 := Bn8.setFar (i := 0) (u := .int .i64 0) hen.symm; have Bf9 := Bf8.setFar (i := 0) (u := .int .i64 0) hef.symm; have Be9 := Be8.set 0 (.int .i64 0) rfl; have O9 := O8.set Be8 (by decide) 0 (.int .i64 0); have R9 := R8.setFar (i := 0) (u := .int .i64 0) Be8 (by decide); have H9 := H8.set (i := 0) (u := .int .i64 0) Ge
  clear hK Br8 Bs8 Bf8 Bn8 Be8 O8 R8 H8 c3 f3
  generalize World.setCell w8 ⟨ge, 0, none⟩ (.int .i64 0) = w9 at *
  refine done_ (by kernel_rfl) ?_
  go_wp2
  refine leaves_cons (f := 32) (args := #[.pointer (some ⟨ge, 0, none⟩), .pointer (some ⟨gf, 0, none⟩), .pointer (some ⟨gn, 0, none⟩)]) (by simp) (by simp [go_sem]) ?_
  refine (clos_idle ge gf gn 0 w9 Be9).mono ?_
  rintro e u' w10 ⟨rfl, rfl, rfl⟩
  have Bn10 := Bn9.setFar (i := 0) (u := .int .i64 0) hen.symm; have Bf10 := Bf9.setFar (i := 0) (u := .int .i64 0) hef.symm; have Be10 := Be9.set 0 (.int .i64 0) rfl; have O10 := O9.set Be9 (by decide) 0 (.int .i64 0); have R10 := R9.setFar (i := 0) (u := .int .i64 0) Be9 (by decide); have H10 := H9.set (i := 0) (u := .int .i64 0) Ge
  generalize World.setCell w9 ⟨ge, 0, none⟩ (.int .i64 0) = w10 at *
  have d0 := Bf10.at 0 rfl; have d1 := Bf10.at 1 rfl; have d2 := Bf10.at 2 rfl; have d3 := Bf10.at 3 rfl; have d4 := Bf10.at 4 rfl; have d5 := Bf10.at 5 rfl; have d6 := Bf10.at 6 rfl; have d7 := Bf10.at 7 rfl; have d8 := Bf10.at 8 rfl; have d9 := Bf10.at 9 rfl
  have c1 := Be10.at 0 rfl
  have c2 := Bn10.at 0 rfl
  simp [Leaves, settle, results, Try.func17, go_sem, c1, c2, d0, d1, d2, d3, d4, d5, d6, d7, d8, d9]
  exact ⟨_, _, ⟨rfl, rfl⟩, O10, R10, H10⟩

end Go.Proofs.Ytphakdfholkbdaa
