/- Several texts of this claim in one: FrS FrL FrM -/
import Derived.Test.YtphakdfholkbdaaKH
import Derived.Test.YtphakdfholkbdaaKD
import Derived.Test.YtphakdfholkbdaaKS
import Derived.Test.YtphakdfholkbdaaKA
import Derived.Deep.Slices
section
namespace Go.Proofs.Ytphakdfholkbdaa
open Go.Proofs.Ytphakdfholkbdaa.PFra Go.RowKit Go.Proofs.YtphakdfholkbdaaW.PrintWords Go.Proofs.YtphakdfholkbdaaW.PrintLast Go.Proofs.YtphakdfholkbdaaW.PrintMore
set_option maxRecDepth 100000
set_option maxHeartbeats 4000000
set_option linter.unusedVariables false
set_option linter.unusedSimpArgs false
theorem ssame_loop (l : List S47) (hl : l.length < 1000000) : ∀ d K i : Nat, i + d = l.length → d < K → wigwagref05_Spans.l0 K l l (i : Int) = some true := by
 intro d
 induction d with
 | zero =>
  intro K i hi hk
  obtain ⟨k, rfl⟩ : ∃ k, K = k + 1 := ⟨K - 1, by omega⟩
  rw [wigwagref05_Spans.l0, if_neg (by omega)]
 | succ d ih =>
  intro K i hi hk
  obtain ⟨k, rfl⟩ : ∃ k, K = k + 1 := ⟨K - 1, by omega⟩
  have hn : wrap64 ((i : Int) + 1) = ((i + 1 : Nat) : Int) := by unfold wrap64; omega
  rw [wigwagref05_Spans.l0, if_pos (by omega), if_pos (by omega), if_pos (by omega), if_neg (by simp), hn]
  exact ih k (i + 1) (by omega) (by omega)
theorem ssame {l : List S47} {K : Nat} (hl : l.length < 1000000) (hk : l.length < K) : wigwagref05_Spans.f K l l = some true := by
 unfold wigwagref05_Spans.f
 rw [if_pos rfl]
 exact ssame_loop l hl l.length K 0 (by omega) (by omega)
theorem same_refl {K : Nat} (x : S27) (hl : x.f9.length < 1000000) (hk : x.f9.length < K) : wigwagref05_Same.f K x.f0 x.f1 x.f2 x.f3 x.f4 x.f5 x.f6 x.f7 x.f8 x.f9 x.f0 x.f1 x.f2 x.f3 x.f4 x.f5 x.f6 x.f7 x.f8 x.f9 = some true := by
 unfold wigwagref05_Same.f
 rw [ssame hl hk]
 simp
theorem all_same_loop (l : List S27) (hl : l.length < 1000000) (M : Nat) (hM : M < 1000000) (hx : ∀ x ∈ l, x.f9.length ≤ M) : ∀ d K i : Nat, i + d = l.length → d + M + 1 < K → wigwagref05_SameAll.l0 K l l (i : Int) = some true := by
 intro d
 induction d with
 | zero =>
  intro K i hi hk
  obtain ⟨k, rfl⟩ : ∃ k, K = k + 1 := ⟨K - 1, by omega⟩
  rw [wigwagref05_SameAll.l0, if_neg (by omega)]
 | succ d ih =>
  intro K i hi hk
  obtain ⟨k, rfl⟩ : ∃ k, K = k + 1 := ⟨K - 1, by omega⟩
  have hn : wrap64 ((i : Int) + 1) = ((i + 1 : Nat) : Int) := by unfold wrap64; omega
  have hlt : i < l.length := by omega
  have hrd : rd_T27 l (i : Int) = l[i] := by simp [rd_T27, List.getD, List.getElem?_eq_getElem hlt]
  have hm := hx _ (List.getElem_mem hlt)
  rw [wigwagref05_SameAll.l0, if_pos (by omega), if_pos (by omega), if_pos (by omega), hrd, same_refl l[i] (by omega) (by omega), Option.bind_some, if_pos rfl, hn]
  exact ih k (i + 1) (by omega) (by omega)
theorem all_same {l : List S27} {K M : Nat} (hl : l.length < 1000000) (hM : M < 1000000) (hx : ∀ x ∈ l, x.f9.length ≤ M) (hk : l.length + M + 1 < K) : wigwagref05_SameAll.f K l l = some true := by
 unfold wigwagref05_SameAll.f
 rw [if_pos rfl]
 exact all_same_loop l hl M hM hx l.length K 0 (by omega) hk
structure GoodF (x : S27) : Prop where
 chk : uChk x.f0 x.f1 x.f2 x.f3 x.f4 x.f5 x.f6 x.f7 x.f8.length x.f9 = 0
 nn : ∀ y ∈ x.f9, 0 ≤ y.f0
 hw : ∀ j, 0 ≤ gA x.f1 x.f2 x.f3 x.f4 x.f5 x.f6 j
 b8 : bytesOk x.f8 = true
def encF (x : S27) : List Int := uEnc x.f0 x.f1 x.f2 x.f3 x.f4 x.f5 x.f6 x.f7 x.f8 x.f9
theorem GoodF.pos {x : S27} (h : GoodF x) : 0 < (encF x).length := by
 obtain ⟨os, ho⟩ := chk_fOffs h.chk
 unfold encF
 rw [enc_eq ho h.chk h.nn, List.length_append]
 have hb := nums_bound ho h.chk h.nn h.hw (uKind x.f0 x.f7) (by unfold numsOf; simp)
 have := (uPut_num hb.1 hb.2).2.2.2.2
 unfold numsOf uNums
 simp only [List.cons_append, List.nil_append, List.flatMap_cons, List.length_append]
 omega
theorem GoodF.len {x : S27} (h : GoodF x) : (encF x).length ≤ 3000 := by
 obtain ⟨os, ho⟩ := chk_fOffs h.chk
 exact enc_len ho h.chk h.nn
theorem GoodF.bytes {x : S27} (h : GoodF x) : bytesOk (encF x) = true := by
 obtain ⟨os, ho⟩ := chk_fOffs h.chk
 exact enc_bytes ho h.chk h.nn h.hw h.b8
theorem GoodF.parse {x : S27} (h : GoodF x) (r : List Int) : uParse (encF x ++ r) = (x.f0, x.f1, x.f2, x.f3, x.f4, x.f5, x.f6, x.f7, x.f8, x.f9, ((encF x).length : Int), 0) := by
 obtain ⟨os, ho⟩ := chk_fOffs h.chk
 exact parse_back r ho h.chk h.nn h.hw
theorem GoodF.spans {x : S27} (h : GoodF x) : x.f9.length ≤ 32 := by
 obtain ⟨os, ho⟩ := chk_fOffs h.chk
 obtain ⟨_, hsp, hno, _⟩ := chk_parts ho h.chk
 by_cases hk : x.f0 = 2 ∨ x.f0 = 3
 ·have hok := hsp hk
  unfold spOk at hok
  simp only [Bool.and_eq_true, decide_eq_true_eq] at hok
  exact hok.1.2
 ·rw [hno hk]; simp
theorem all_enc : ∀ (fs : List S27) (K : Nat) (acc : List S27), (∀ x ∈ fs, GoodF x) → fs.length < K → acc.length + fs.length ≤ 1000 → fs.length ≤ 300 → frame_All.l0 K (fs.flatMap encF) acc = some (acc ++ fs, 0)
 | [], K, acc, _, hk, _, _ => by
  obtain ⟨k, rfl⟩ : ∃ k, K = k + 1 := ⟨K - 1, by simp at hk; omega⟩
  rw [frame_All.l0, if_neg (by simp)]
  simp
 | x :: fs, K, acc, hg, hk, ha, hn => by
  obtain ⟨k, rfl⟩ : ∃ k, K = k + 1 := ⟨K - 1, by simp at hk; omega⟩
  have hx := hg x (by simp)
  have hpos := hx.pos
  have hlen := hx.len
  have hrest : ∀ (l : List S27), (∀ y ∈ l, GoodF y) → bytesOk (l.flatMap encF) = true ∧ (l.flatMap encF).length ≤ 3000 * l.length := by
   intro l
   induction l with
   | nil => intro _; exact ⟨rfl, by simp⟩
   | cons y l ih =>
    intro h
    obtain ⟨h1, h2⟩ := ih (fun z hz => h z (by simp [hz]))
    have hy := h y (by simp)
    have := hy.len
    rw [List.flatMap_cons]
    refine ⟨bytes_app hy.bytes h1, ?_⟩
    rw [List.length_append, List.length_cons]
    omega
  obtain ⟨hb, hl⟩ := hrest fs (fun y hy => hg y (by simp [hy]))
  have hle : (fs.flatMap encF).length ≤ 3000 * 300 := Nat.le_trans hl (Nat.mul_le_mul_left _ (by simp at hn; omega))
  have ih := all_enc fs k (acc ++ [x]) (fun y hy => hg y (by simp [hy])) (by simp at hk; omega) (by simp at ha ⊢; omega) (by simp at hn; omega)
  rw [frame_All.l0, List.flatMap_cons]
  generalize fs.flatMap encF = r at *
  have hP : frame_Parse.f (encF x ++ r) = some (x.f0, x.f1, x.f2, x.f3, x.f4, x.f5, x.f6, x.f7, x.f8, x.f9, ((encF x).length : Int), 0) := by
   rw [parse_f (bytes_app hx.bytes hb) (by rw [List.length_append]; omega), hx.parse]
  rw [if_pos (by rw [List.length_append]; omega), hP, Option.bind_some]
  simp only
  rw [if_pos trivial, if_pos (by simp at ha; omega), if_pos (by omega), if_pos (by rw [List.length_append]; omega), Int.toNat_natCast, List.drop_left]
  rw [List.append_assoc] at ih
  exact ih
def Wf27 (x : S27) : Prop := W64 x.f1 ∧ W64 x.f2 ∧ W64 x.f3 ∧ W64 x.f4 ∧ W64 x.f5 ∧ W64 x.f6 ∧ (∀ y ∈ x.f8, (Lit.int .u8 y).wf = true) ∧ (∀ y ∈ x.f9, WfS47 y)
theorem good_of {x : S27} (h : Wf27 x) (hc : uChk x.f0 x.f1 x.f2 x.f3 x.f4 x.f5 x.f6 x.f7 x.f8.length x.f9 = 0) : GoodF x :=
 ⟨hc, fun y hy => (wf64 (h.2.2.2.2.2.2.2 y hy).1).1, gA_nn h.1 h.2.1 h.2.2.1 h.2.2.2.1 h.2.2.2.2.1 h.2.2.2.2.2.1, bytes_wf h.2.2.2.2.2.2.1⟩
theorem few_f (x : S27) : ∃ F, wigwaglaw05_Few.f x.f0 x.f1 x.f2 x.f3 x.f4 x.f5 x.f6 x.f7 x.f8 x.f9 = some F ∧ (F = true → x.f9.length ≤ 100 ∧ x.f8.length ≤ 2000) := by
 unfold wigwaglaw05_Few.f
 split
 ·refine ⟨_, rfl, fun h => ?_⟩
  have := of_decide_eq_true h
  omega
 ·exact ⟨_, rfl, fun h => by cases h⟩
theorem enc_two (x : S27) {k : Nat} (h : Wf27 x) (h8 : x.f8.length ≤ 2000) (h9 : x.f9.length ≤ 100) (hk : 200 ≤ k) :
  (GoodF x ∧ frame_Encode.f k x.f0 x.f1 x.f2 x.f3 x.f4 x.f5 x.f6 x.f7 x.f8 x.f9 = some (encF x, 0)) ∨ frame_Encode.f k x.f0 x.f1 x.f2 x.f3 x.f4 x.f5 x.f6 x.f7 x.f8 x.f9 = some ([], 50) := by
 by_cases hc : uChk x.f0 x.f1 x.f2 x.f3 x.f4 x.f5 x.f6 x.f7 x.f8.length x.f9 = 0
 ·exact .inl ⟨good_of h hc, encode_ok h.1 h.2.1 h.2.2.1 h.2.2.2.1 h.2.2.2.2.1 h.2.2.2.2.2.1 (by omega) (by omega) (by omega) hc⟩
 ·exact .inr (encode_no h.1 h.2.1 h.2.2.1 h.2.2.2.1 h.2.2.2.2.1 h.2.2.2.2.2.1 (by omega) (by omega) (by omega) hc)
theorem all_ok {fs : List S27} (hg : ∀ x ∈ fs, GoodF x) (h0 : 0 < fs.length) (hn : fs.length ≤ 300) {K : Nat} (hk : fs.length < K) : frame_All.f K (fs.flatMap encF) = some (fs, 0) := by
 have := all_enc fs K [] hg hk (by simp; omega) hn
 unfold frame_All.f
 rw [if_neg, this]
 ·simp
 ·match fs, h0 with
  | x :: r, _ =>
   have := (hg x (by simp)).pos
   rw [List.flatMap_cons, List.length_append]
   omega
def kx : Kd (List Value) where
 sz := 10
 E := []
 K := fun _ x cs => cs = x ∧ x.length = 10 ∧ ∀ u ∈ x, u.oneCell' = true
 M := fun _ _ _ x cs => cs = x ∧ x.length = 10 ∧ ∀ u ∈ x, u.oneCell' = true
 K_len := fun h => by rw [h.1]; exact h.2.1
 K_one := fun h => by rw [h.1]; exact h.2.2
 K_below := fun _ h => h
 K_of_M := fun h => h
 M_mono := fun _ h => h
 M_bound := fun h => h
 M_move := fun _ h => h
 M_lower := fun _ h => h
def P2 (w : World) (fs : List S27) (cl : List (List Value)) : Prop := cl.length = fs.length ∧ ∀ (j : Nat) (x : S27) (c : List Value), fs[j]? = some x → cl[j]? = some c → k27.K w x c
theorem P2.nil (w : World) : P2 w [] [] := ⟨rfl, fun j x c h => by simp at h⟩
theorem P2.snoc {w : World} {fs : List S27} {cl : List (List Value)} {x : S27} {c : List Value} (h : P2 w fs cl) (hx : k27.K w x c) : P2 w (fs ++ [x]) (cl ++ [c]) := by
 refine ⟨by simp [h.1], fun j y d hy hd => ?_⟩
 rcases Nat.lt_trichotomy j fs.length with hj | hj | hj
 ·rw [List.getElem?_append_left hj] at hy
  rw [List.getElem?_append_left (by rw [h.1]; exact hj)] at hd
  exact h.2 j y d hy hd
 ·subst hj
  rw [List.getElem?_append_right (Nat.le_refl _), Nat.sub_self] at hy
  rw [List.getElem?_append_right (by rw [h.1]; exact Nat.le_refl _), h.1, Nat.sub_self] at hd
  obtain rfl : x = y := by simpa using hy
  obtain rfl : c = d := by simpa using hd
  exact hx
 ·rw [List.getElem?_eq_none (by rw [List.length_append]; simp; omega)] at hy
  cases hy
structure GX (w0 w : World) (v : Value) (fs : List S27) : Prop where mk :: (out : ∃ cl, Kd.R kx 27 w w0.heap.size (fun _ => True) v cl ∧ P2 w0 fs cl)
theorem GX.nil (w0 w : World) : GX w0 w (.slice none 0 0) [] := ⟨[], Kd.R_nil _ _ _ _ _, P2.nil _⟩
theorem GX.below {w0 w w1 : World} {v : Value} {fs : List S27} (h : GX w0 w v fs) (hb : Below w.heap.size w w1) : GX w0 w1 v fs := by
 obtain ⟨cl, hR, hP⟩ := h.out
 exact ⟨cl, Kd.R_below hR hb, hP⟩
theorem apart5 {w : World} {a b : Nat} {va vb : Value} {cl : List (List Value)} {l : List Int} {ok ok' : Nat → Prop} (hR : Kd.R kx 27 w a ok va cl) (hO : Kd.R (Kd.int .u8) 5 w b ok' vb l) (k : Nat) (h1 : va.ownBlock = some k) (h2 : vb.ownBlock = some k) : False := by
 obtain ⟨_, _, _, q, hq, cells, hc⟩ := (Kd.R_bound hR).1 k h1
 obtain ⟨_, _, _, q', hq', cells', hc'⟩ := (Kd.R_bound hO).1 k h2
 rw [hc] at hc'
 simp only [Option.some.injEq, Obj.cells.injEq] at hc'
 have hqq := hc'.2.1
 have e1 : q = 27 := by simpa [kx] using hq
 have e2 : q' = 5 := by simpa [Kd.int, Kd.scalar] using hq'
 rw [e1, e2] at hqq
 exact absurd hqq (by decide)
theorem GX.row {w0 w w1 : World} {v u : Value} {fs : List S27} {l : List Int} (h : GX w0 w v fs) (hv : OW w0 w u l) (hg : w.grownBy w1 u.ownBlock) : GX w0 w1 v fs := by
 obtain ⟨cl, hR, hP⟩ := h.out
 exact ⟨cl, Kd.R_reok rfl (Kd.R_grown (Kd.R_tight rfl hR) hg (fun k hk e => apart5 hR hv.out k hk.symm e.symm)) (fun _ _ => trivial), hP⟩
theorem OW.rowG {w0 w w1 : World} {v u : Value} {cl : List (List Value)} {l : List Int} (h : OW w0 w u l) (hR : Kd.R kx 27 w w0.heap.size (fun _ => True) v cl) (hg : w.grownBy w1 v.ownBlock) : OW w0 w1 u l :=
 ⟨Kd.R_reok rfl (Kd.R_grown (Kd.R_tight rfl h.out) hg (fun k hk e => apart5 hR h.out k e.symm hk.symm)) (fun _ _ => trivial)⟩
theorem GX.reads {w0 w : World} {v : Value} {fs : List S27} (h : GX w0 w v fs) (hS : Since w0 w) : ∃ A c, v = .slice A fs.length c ∧ fs.length ≤ c ∧ Kd.C k27 w A fs.length fs := by
 obtain ⟨cl, hR, hl, hP⟩ := h.out
 obtain ⟨A, c, rfl, hc, hC⟩ := Kd.R_reads hR
 refine ⟨A, c, by rw [hl], by omega, rfl, ?_, fun hp => ?_⟩
 ·have := hC.2.1
  omega
 ·obtain ⟨ad, e, hx⟩ := hC.2.2 (by omega)
  refine ⟨ad, e, fun j x hj => ?_⟩
  have hjl : j < cl.length := by
   have := (List.getElem?_eq_some_iff.1 hj).1
   omega
  obtain ⟨cs, h1, h2, h3⟩ := hx j _ (List.getElem?_eq_getElem hjl)
  obtain ⟨rfl, _, _⟩ := h2
  exact ⟨_, h1, k27.K_below hS.out (hP j x _ hj (List.getElem?_eq_getElem hjl)), h3⟩
section
variable {P : Program} {ops : Array Oper} {rest : List Oper} {o : Oper} {a : Act} {Q : Exit → Act → World → Prop} {W : World}
theorem seg_load_at (hgd : o.guard = none) {N : Tmp} (_hd : o.dst = some N) (ty : TypeId) (x : Operand) (ho : o.op = .load ty x) (p : Addr) (seg : List Value) {d : TypeDesc} (hx : a.eval x = .pointer (some p)) (hB : ∀ j v, seg[j]? = some v → W.cell? (p.add j) = some v)
  (hu : P.underlying ty = some d) (hd : (match d with | .struct _ | .array _ _ => true | _ => false) = true) (hi : (P.info? ty).map (·.size) = some seg.length)
  (h : wpList P ops Q rest (a.put o.dst (.agg seg.toArray)) W) : wpList P ops Q (o :: rest) a W := by
 have hr : (loadVar ty p).run P W = .ok (.agg seg.toArray) W := by
  have hl := run_loadCells_list (P := P) (w := W) p seg hB
  obtain ⟨i, hi, hs⟩ := Option.map_eq_some_iff.1 hi
  have hagg : (isAgg ty).run P W = .ok true W := by
   unfold isAgg
   rw [Sem.run_bind, run_underlying hu W]
   cases d <;> simp_all
  simp [loadVar, Sem.run_bind, hagg, sizeOf, typeInfo, hi, hs, hl]
 refine wpList_plain hgd fun K hK => ?_
 unfold Oper.wp execOp
 simp only [ho, hx, Instr.loadAt, Instr.sureAddr, Sem.run_bind, Sem.run_pure, Result.andThen_ok, hr]
 exact hK _ _ h
end
structure PC (w : World) (p : Addr) (cs : List Value) : Prop where mk :: (out : ∀ j v, cs[j]? = some v → w.cell? (p.add j) = some v)
theorem PC.since {w0 w : World} {p : Addr} {cs : List Value} (h : PC w0 p cs) (hS : Since w0 w) : PC w p cs :=
 ⟨fun j v hv => (hS.out.cell (World.block_lt_of_cell? w0 _ (h.out j v hv))).trans (h.out j v hv)⟩
theorem PC.of {w : World} {A : Option Addr} {l : List S27} (h : Kd.C k27 w A l.length l) {q : Nat} {x : S27} (hq : l[q]? = some x) : ∃ ad cs, A = some ad ∧ k27.K w x cs ∧ PC w (ad.add (((q : Nat) : Int).toNat * 10)) cs := by
 have hlt := (List.getElem?_eq_some_iff.1 hq).1
 obtain ⟨ad, c, e, _, hK, hc⟩ := Kd.C_get h z27 (q : Int) (by omega) (by omega)
 have hx : l.getD (q : Int).toNat z27 = x := by simp [List.getD, hq]
 rw [hx] at hK
 exact ⟨ad, c, e, hK, ⟨fun j v hv => by rw [Go.Deep.add_add]; exact hc j v hv⟩⟩
theorem kx_lit {w : World} {g : Nat} {c : List Value} (hB : Blk w g 27 c) (h : c.length = 10) (h1 : ∀ u ∈ c, u.oneCell' = true) : Kd.C kx w (some ⟨g, 0, none⟩) 1 [c] := by
 refine ⟨rfl, by decide, fun _ => ⟨_, rfl, fun j p hj => ?_⟩⟩
 obtain rfl : j = 0 := by
  have := (List.getElem?_eq_some_iff.1 hj).1
  simp at this
  omega
 obtain rfl : c = p := by simpa using hj
 refine ⟨c, h, ⟨rfl, h, h1⟩, fun i u hu => ?_⟩
 have hadd : (⟨g, 0, none⟩ : Addr).add (0 * 10 + i) = ⟨g, i, none⟩ := by unfold Addr.add; simp; omega
 show w.cell? ((⟨g, 0, none⟩ : Addr).add (0 * 10 + i)) = some u
 rw [hadd]
 exact (hB.cell i).trans hu
theorem len_flat : ∀ (fs : List S27), (∀ x ∈ fs, GoodF x) → (fs.flatMap encF).length ≤ 3000 * fs.length
 | [], _ => by simp
 | x :: fs, h => by
  have h1 := len_flat fs (fun y hy => h y (by simp [hy]))
  have := (h x (by simp)).len
  rw [List.flatMap_cons, List.length_append, List.length_cons]
  omega
section
variable {H : Type} {enc : TypeId × Value → H} {w : World} {base : Nat} {spare : Nat → Bool} {held : Bool}
theorem PFra.open_structsX {P : Program} {α : Type} [Inhabited α] {d : Kd α} {Wf : α → Prop} {ls : List Leaf} {t e : TypeId} {m fuel : Nat} {A : Option Addr} {len cap : Nat} {x : DataW H × List MemPlace}
  (hdec : ∀ cs, IsLx (IsRow enc P w base spare held) ls cs → ∃ y, d.K w y cs ∧ Wf y) (ht : P.underlying t = some (.slice e)) (hl : leavesX P m e = some ls) (hs : d.sz = P.cellsOf e)
  (h : DataW.trod enc P w base spare held fuel t [.slice A len cap] = some x) : ∃ ys : List α, ys.length = len ∧ len ≤ cap ∧ d.C w A len ys ∧ ∀ y ∈ ys, Wf y := by
 rcases Go.Deep.open_slice ht h with ⟨h0, _⟩ | ⟨a, len', cap', m', n, D, Pl, hcs, _, hle, hmx, hm, _, hx⟩
 ·simp only [List.cons.injEq, Value.slice.injEq, and_true] at h0
  obtain ⟨rfl, rfl, rfl⟩ := h0
  exact ⟨[], rfl, Nat.le_refl _, Kd.C_nil d w, by simp⟩
 ·simp only [List.cons.injEq, Value.slice.injEq, and_true] at hcs
  obtain ⟨rfl, rfl, rfl⟩ := hcs
  have hlm : len ≤ m' := by rw [hm]; split <;> omega
  have each : ∀ i, i < len → ∃ y, (∃ cs, d.K w y cs ∧ ∀ j u, cs[j]? = some u → w.cell? (a.add (i * d.sz + j)) = some u) ∧ Wf y := by
   intro i hi
   obtain ⟨cs', h1, h2⟩ := hx i (by omega)
   obtain ⟨_, hlen, hcell⟩ := World.cells?_some h1
   obtain ⟨y, hK, hW⟩ := hdec cs' (leavesX_tells m e ls cs' hl hlen ⟨_, _, h2⟩)
   refine ⟨y, ⟨cs', hK, fun j u hu => ?_⟩, hW⟩
   have hj : j < P.cellsOf e := by
    have := (List.getElem?_eq_some_iff.1 hu).1
    omega
   rw [hs, ← Go.Deep.add_add, hcell j hj, hu]
  obtain ⟨Y, hY⟩ := Go.Deep.choose_lt each
  have hmax : cap ≤ 9223372036854775807 := hmx
  refine ⟨(List.range len).map Y, by simp, hle, ⟨by simp, by omega, fun _ => ⟨a, rfl, fun j p hp => ?_⟩⟩, fun y hy => ?_⟩
  ·obtain ⟨h1, h2⟩ := List.getElem?_eq_some_iff.1 hp
   have hj : j < len := by simpa using h1
   have e : p = Y j := by rw [← h2]; simp
   subst e
   obtain ⟨⟨cs, hK, hcell⟩, _⟩ := hY j hj
   exact ⟨cs, d.K_len hK, hK, hcell⟩
  ·obtain ⟨i, hi, rfl⟩ := List.mem_map.1 hy
   exact (hY i (List.mem_range.1 hi)).2
def PFra.WfX27 (x : S27) : Prop := Wf27 x
instance : Inhabited S27 := ⟨z27⟩
theorem PFra.dec27x (w : World) (cs : List Value) (lv : IsLx (IsRow enc Try.prog w base spare held) [.num .i64, .num .u64, .num .u64, .num .u64, .num .u64, .num .u64, .num .u64, .truth, .row 24, .row 25] cs) : ∃ y : S27, k27.K w y cs ∧ PFra.WfX27 y := by
 obtain ⟨a0, l0, e0, w0, lv0⟩ := lx_int lv
 obtain ⟨a1, l1, e1, w1, lv1⟩ := lx_int lv0
 obtain ⟨a2, l2, e2, w2, lv2⟩ := lx_int lv1
 obtain ⟨a3, l3, e3, w3, lv3⟩ := lx_int lv2
 obtain ⟨a4, l4, e4, w4, lv4⟩ := lx_int lv3
 obtain ⟨a5, l5, e5, w5, lv5⟩ := lx_int lv4
 obtain ⟨a6, l6, e6, w6, lv6⟩ := lx_int lv5
 obtain ⟨a7, l7, e7, lv7⟩ := lx_bool lv6
 obtain ⟨v8, l8, e8, w8, lv8⟩ := lx_row lv7
 obtain ⟨v9, l9, e9, w9, lv9⟩ := lx_row lv8
 have e10 := lx_nil lv9
 subst e10
 subst e9
 subst e8
 subst e7
 subst e6
 subst e5
 subst e4
 subst e3
 subst e2
 subst e1
 subst e0
 obtain ⟨A8, n8, c8, rfl⟩ := row_form Try.underlying24 w8
 obtain ⟨y8, hn8, hl8, hC8, x8⟩ : ∃ ys, ys.length = n8 ∧ n8 ≤ c8 ∧ Kd.C (Kd.int .u8) w A8 n8 ys ∧ ∀ y ∈ ys, (Lit.int .u8 y).wf = true := by
  obtain ⟨m, z, hm⟩ := w8
  exact open_structs (m := 9) (fun cs => decI w cs) Try.underlying24 (by kernel_rfl) (by kernel_rfl) hm
 subst hn8
 obtain ⟨A9, n9, c9, rfl⟩ := row_form Try.underlying25 w9
 obtain ⟨y9, hn9, hl9, hC9, x9⟩ : ∃ ys, ys.length = n9 ∧ n9 ≤ c9 ∧ Kd.C PFra.k47 w A9 n9 ys ∧ ∀ y ∈ ys, PFra.WfS47 y := by
  obtain ⟨m, z, hm⟩ := w9
  exact open_structs (m := 9) (fun cs => PFra.dec47 w cs) Try.underlying25 (by kernel_rfl) (by kernel_rfl) hm
 subst hn9
 exact ⟨⟨a0, a1, a2, a3, a4, a5, a6, a7, y8, y9⟩, k27_mk w ⟨a0, a1, a2, a3, a4, a5, a6, a7, y8, y9⟩ hl8 hC8 hl9 hC9, wf64 w1, wf64 w2, wf64 w3, wf64 w4, wf64 w5, wf64 w6, x8, x9⟩
end
theorem PFra.lists_law (A0 : Option Addr) (c0 : Nat) (l0 : List S27) (wf : ∀ y ∈ l0, PFra.WfX27 y) (w : World) (h0 : Kd.C k27 w A0 l0.length l0) (hc0 : l0.length ≤ c0) :
  Calls Try.prog 9 #[.slice A0 l0.length c0] w fun e w' => e = .returned (.bool true) ∧ Below w.heap.size w w' := by
 have hu27 := Try.underlying27
 have hAw : wigwaglaw05_awake.f 500 = some true := awake_ok (by omega)
 have HS := Since.refl w
 go_enter Try.func9, Try.ntmps9
 go_wp2_with (first | ((go_at_call 11); (with_reducible refine (wigwaglaw05_awake.calls 500 true _ hAw).mono ?_); rintro e w' ⟨rfl, hb⟩; replace HS := HS.below hb; clear hb))
 go_loopw [4, 5, 6] (fun vb vg i wr => ∃ (vb_ vg_ : Value) (q : Nat) (fs : List S27), vb_ = vb ∧ vg_ = vg ∧ i = .int .i64 q ∧ q ≤ l0.length ∧ q ≤ 10 ∧ fs.length ≤ q ∧ (∀ x ∈ fs, GoodF x) ∧ OW w wr vb (fs.flatMap encF) ∧ GX w wr vg fs ∧ Since w wr) (fun _ _ i _ => 10 - (intOf i).toNat)
 case atStart => exact ⟨_, _, 0, [], rfl, rfl, rfl, Nat.zero_le _, Nat.zero_le _, Nat.le_refl _, (fun x hx => absurd hx (by simp)), OW.nil _ _, GX.nil _ _, HS⟩
 case round =>
  clear HS
  obtain ⟨vb, vg, q, fs, rfl, rfl, rfl, hq, hq10, hfq, hG, OB, GG, HS⟩ := hrel
  by_cases hlt : q < l0.length ∧ q < 10
  ·obtain ⟨hlt, hl10⟩ := hlt
   have d1 : decide ((q : Int) < (l0.length : Int)) = true := decide_eq_true (by omega)
   have d2 : decide ((q : Int) < (10 : Int)) = true := decide_eq_true (by omega)
   have d3 : decide ((0 : Int) ≤ (q : Int)) = true := decide_eq_true (by omega)
   obtain ⟨x, hx⟩ : ∃ x, l0[q]? = some x := ⟨_, List.getElem?_eq_getElem hlt⟩
   obtain ⟨ad, cs, rfl, KX, PX⟩ := PC.of h0 hx
   have WX := wf x (List.mem_of_getElem? hx)
   obtain ⟨A8, c8, A9, c9, rfl, hc8, g8, hc9, g9⟩ := k27_open KX
   obtain ⟨F, hF, qF⟩ := few_f x
   have hbl := len_flat fs hG
   cases F with
   | false =>
    go_wp2_with (first | ((with_reducible refine gate_dst (N := 26) rfl ?_); (try (refine gate_guard (by rfl) ?_; dsimp only)); refine seg_load_at rfl (N := 26) rfl 27 (.tmp 25) rfl (ad.add (((q : Nat) : Int).toNat * 10)) [.int .i64 x.f0, .int .u64 x.f1, .int .u64 x.f2, .int .u64 x.f3, .int .u64 x.f4, .int .u64 x.f5, .int .u64 x.f6, .bool x.f7, .slice A8 x.f8.length c8, .slice A9 x.f9.length c9] rfl (PX.since HS).out Try.underlying27 rfl (by kernel_rfl) ?_) | ((go_at_call 12); (with_reducible refine (wigwaglaw05_Few.calls x.f0 x.f1 x.f2 x.f3 x.f4 x.f5 x.f6 x.f7 A8 c8 x.f8 A9 c9 x.f9 _ _ (Kd.C_below g8 HS.out) hc8 (Kd.C_below g9 HS.out) hc9 hF).mono ?_); rintro e w' ⟨rfl, hb⟩; replace HS := HS.below hb; replace OB := OB.below hb; replace GG := GG.below hb; clear hb))
    go_roundw
    case rel => exact ⟨_, _, q + 1, fs, rfl, rfl, by go_num, hlt, hl10, by omega, hG, OB, GG, HS⟩
    case measure => simp [intOf]; omega
   | true =>
    obtain ⟨p1, p2⟩ := qF rfl
    rcases enc_two (k := 500) x WX p2 p1 (by omega) with ⟨gX, hE⟩ | hE
    ·have hxl := gX.len
     go_wp2_with (first | ((with_reducible refine gate_dst (N := 26) rfl ?_); (try (refine gate_guard (by rfl) ?_; dsimp only)); refine seg_load_at rfl (N := 26) rfl 27 (.tmp 25) rfl (ad.add (((q : Nat) : Int).toNat * 10)) [.int .i64 x.f0, .int .u64 x.f1, .int .u64 x.f2, .int .u64 x.f3, .int .u64 x.f4, .int .u64 x.f5, .int .u64 x.f6, .bool x.f7, .slice A8 x.f8.length c8, .slice A9 x.f9.length c9] rfl (PX.since HS).out Try.underlying27 rfl (by kernel_rfl) ?_) | ((go_at_call 12); (with_reducible refine (wigwaglaw05_Few.calls x.f0 x.f1 x.f2 x.f3 x.f4 x.f5 x.f6 x.f7 A8 c8 x.f8 A9 c9 x.f9 _ _ (Kd.C_below g8 HS.out) hc8 (Kd.C_below g9 HS.out) hc9 hF).mono ?_); rintro e w' ⟨rfl, hb⟩; replace HS := HS.below hb; replace OB := OB.below hb; replace GG := GG.below hb; clear hb) | ((with_reducible refine gate_dst (N := 33) rfl ?_); (try (refine gate_guard (by rfl) ?_; dsimp only)); refine seg_load_at rfl (N := 33) rfl 27 (.tmp 32) rfl (ad.add (((q : Nat) : Int).toNat * 10)) [.int .i64 x.f0, .int .u64 x.f1, .int .u64 x.f2, .int .u64 x.f3, .int .u64 x.f4, .int .u64 x.f5, .int .u64 x.f6, .bool x.f7, .slice A8 x.f8.length c8, .slice A9 x.f9.length c9] rfl (PX.since HS).out Try.underlying27 rfl (by kernel_rfl) ?_) | ((go_at_call 13); (with_reducible refine (frame_Encode.calls 500 x.f0 x.f1 x.f2 x.f3 x.f4 x.f5 x.f6 x.f7 A8 c8 x.f8 A9 c9 x.f9 _ _ _ (Kd.C_below g8 HS.out) hc8 (Kd.C_below g9 HS.out) hc9 hE).mono ?_); rintro e w' ⟨vx, rfl, ox, hb⟩; have Ox : OW w w' vx _ := ⟨Kd.R_lower ox HS.le⟩; replace HS := HS.below hb; replace OB := OB.below hb; replace GG := GG.below hb; obtain ⟨Ax, cx, rfl⟩ := Kd.R_slice Ox.out; clear hb ox) | ((with_reducible refine gate_builtin (b := .append) (xs := #[.tmp 39, .tmp 40]) rfl ?_); at_builtin; refine Kd.R_append_rows (Kd.int .u8) (w0 := w) w.heap.size rfl (.tmp 39) (.tmp 40) 24 5 (.int .u8 0) 1 rfl Try.underlying24 info5 rfl (by decide) (by omega) vb (fs.flatMap encF) (encF x) _ _ _ (fun _ => True) (fun _ => False) rfl rfl ?aO ?aR (fun _ _ h => h) (fun _ h => h.elim) (fun _ _ => trivial) ?aB ?aS ?aL ?_; (case aO => exact OB.out); (case aR => exact (Kd.R_reads' Ox.out).2.2); (case aB => exact HS.out); (case aS => exact HS.le); (case aL => omega); intro v2_ w' ho2 hb2 hg2 hat2; clear hat2; have GG' := GG.row OB hg2; clear GG; have GG := GG'; clear GG'; clear Ox; have OB' : OW w w' v2_ ((fs ++ [x]).flatMap encF) := ⟨by simpa using ho2⟩; clear OB; have OB := OB'; clear OB' ho2 hg2; replace HS : Since w w' := ⟨hb2⟩; clear hb2) | ((with_reducible refine gate_dst (N := 46) rfl ?_); (try (refine gate_guard (by rfl) ?_; dsimp only)); refine seg_load_at rfl (N := 46) rfl 27 (.tmp 45) rfl (ad.add (((q : Nat) : Int).toNat * 10)) [.int .i64 x.f0, .int .u64 x.f1, .int .u64 x.f2, .int .u64 x.f3, .int .u64 x.f4, .int .u64 x.f5, .int .u64 x.f6, .bool x.f7, .slice A8 x.f8.length c8, .slice A9 x.f9.length c9] rfl (PX.since HS).out Try.underlying27 rfl (by kernel_rfl) ?_) | ((with_reducible refine gate_dst (N := 47) rfl ?_); (try (refine gate_guard (by rfl) ?_; dsimp only)); refine seg_lit rfl (N := 47) rfl [.int .i64 x.f0, .int .u64 x.f1, .int .u64 x.f2, .int .u64 x.f3, .int .u64 x.f4, .int .u64 x.f5, .int .u64 x.f6, .bool x.f7, .slice A8 x.f8.length c8, .slice A9 x.f9.length c9] 27 1 ?hr ?_; (case hr => first | (go_simp; done) | (go_simp; rfl)); intro gz hg1 w' Bz hb; replace HS := HS.below hb; replace OB := OB.below hb; replace GG := GG.below hb; clear hg1 hb; have hCz := kx_lit Bz rfl (by simp [Value.oneCell'])) | ((with_reducible refine gate_builtin (b := .append) (xs := #[.tmp 42, .tmp 47]) rfl ?_); at_builtin; obtain ⟨cl, RG, PG⟩ := GG.out; refine Kd.R_append_rows kx (w0 := w) w.heap.size rfl (.tmp 42) (.tmp 47) 35 27 _ 112 rfl Try.underlying35 info27 rfl (by decide) (by omega) vg cl [[.int .i64 x.f0, .int .u64 x.f1, .int .u64 x.f2, .int .u64 x.f3, .int .u64 x.f4, .int .u64 x.f5, .int .u64 x.f6, .bool x.f7, .slice A8 x.f8.length c8, .slice A9 x.f9.length c9]] _ _ _ (fun _ => True) (fun _ => False) rfl rfl RG hCz (fun _ _ h => h) (fun _ h => h.elim) (fun _ _ => trivial) HS.out HS.le ?aL ?_; (case aL => have := PG.1; first | omega | (simp; omega)); intro v3_ w' ho3 hb3 hg3 hat3; clear hat3; have OB' := OW.rowG OB RG hg3; clear OB; have OB := OB'; clear OB' hg3 RG hCz; clear GG; have GG : GX w w' v3_ (fs ++ [x]) := ⟨_, ho3, PG.snoc KX⟩; clear ho3 PG; replace HS : Since w w' := ⟨hb3⟩; clear hb3))
     go_roundw
     case rel => exact ⟨_, _, q + 1, fs ++ [x], rfl, rfl, by go_num, hlt, hl10, by simp; omega, (by intro y hy; rcases List.mem_append.1 hy with h | h; exact hG y h; (obtain rfl : y = x := by simpa using h); exact gX), OB, GG, HS⟩
     case measure => simp [intOf]; omega
    ·go_wp2_with (first | ((with_reducible refine gate_dst (N := 26) rfl ?_); (try (refine gate_guard (by rfl) ?_; dsimp only)); refine seg_load_at rfl (N := 26) rfl 27 (.tmp 25) rfl (ad.add (((q : Nat) : Int).toNat * 10)) [.int .i64 x.f0, .int .u64 x.f1, .int .u64 x.f2, .int .u64 x.f3, .int .u64 x.f4, .int .u64 x.f5, .int .u64 x.f6, .bool x.f7, .slice A8 x.f8.length c8, .slice A9 x.f9.length c9] rfl (PX.since HS).out Try.underlying27 rfl (by kernel_rfl) ?_) | ((go_at_call 12); (with_reducible refine (wigwaglaw05_Few.calls x.f0 x.f1 x.f2 x.f3 x.f4 x.f5 x.f6 x.f7 A8 c8 x.f8 A9 c9 x.f9 _ _ (Kd.C_below g8 HS.out) hc8 (Kd.C_below g9 HS.out) hc9 hF).mono ?_); rintro e w' ⟨rfl, hb⟩; replace HS := HS.below hb; replace OB := OB.below hb; replace GG := GG.below hb; clear hb) | ((with_reducible refine gate_dst (N := 33) rfl ?_); (try (refine gate_guard (by rfl) ?_; dsimp only)); refine seg_load_at rfl (N := 33) rfl 27 (.tmp 32) rfl (ad.add (((q : Nat) : Int).toNat * 10)) [.int .i64 x.f0, .int .u64 x.f1, .int .u64 x.f2, .int .u64 x.f3, .int .u64 x.f4, .int .u64 x.f5, .int .u64 x.f6, .bool x.f7, .slice A8 x.f8.length c8, .slice A9 x.f9.length c9] rfl (PX.since HS).out Try.underlying27 rfl (by kernel_rfl) ?_) | ((go_at_call 13); (with_reducible refine (frame_Encode.calls 500 x.f0 x.f1 x.f2 x.f3 x.f4 x.f5 x.f6 x.f7 A8 c8 x.f8 A9 c9 x.f9 _ _ _ (Kd.C_below g8 HS.out) hc8 (Kd.C_below g9 HS.out) hc9 hE).mono ?_); rintro e w' ⟨vx, rfl, ox, hb⟩; have Ox : OW w w' vx _ := ⟨Kd.R_lower ox HS.le⟩; replace HS := HS.below hb; replace OB := OB.below hb; replace GG := GG.below hb; obtain ⟨Ax, cx, rfl⟩ := Kd.R_slice Ox.out; clear hb ox))
     go_roundw
     case rel => exact ⟨_, _, q + 1, fs, rfl, rfl, by go_num, hlt, hl10, by omega, hG, OB, GG, HS⟩
     case measure => simp [intOf]; omega
  ·have hSA := all_same (K := 500) (M := 32) (l := fs) (by omega) (by omega) (fun x hx => (hG x hx).spans) (by omega)
   obtain ⟨U, hU⟩ : ∃ U, U = fs.flatMap encF := ⟨_, rfl⟩
   rw [← hU] at OB
   obtain ⟨Au, cu, rfl⟩ := Kd.R_slice OB.out
   by_cases hn : fs = []
   ·have hAll : frame_All.f 500 U = some (fs, 50) := by rw [hU, hn]; rfl
    have d4 : decide ((fs.length : Int) > 0) = false := by rw [hn]; rfl
    have d5 : decide ((0 : Int) < (fs.length : Int)) = false := by rw [hn]; rfl
    have d6 : decide (0 < fs.length) = false := by rw [hn]; rfl
    clear hn hU
    rcases Nat.lt_or_ge q l0.length with hl | hl
    ·have d1 : decide ((q : Int) < (l0.length : Int)) = true := decide_eq_true (by omega)
     have d2 : decide ((q : Int) < (10 : Int)) = false := decide_eq_false (by omega)
     go_wp2_with (first | ((go_at_call 19); (with_reducible refine (frame_All.calls 500 (fun k_ => some k_ = (.slice Au U.length cu : Value).ownBlock) _ _ U fs 50 _ ?side1 hAll).mono ?_); (case side1 => exact Kd.R_V (Kd.R_tight rfl OB.out)); rintro e w' ⟨vl, rfl, hl_, hb⟩; obtain ⟨Al, cl, rfl, hcl, hCl⟩ := Kd.S_reads hl_; replace HS := HS.below hb; replace OB := OB.below hb; replace GG := GG.below hb; clear hb hl_; obtain ⟨Ag, cg, rfl, hcg, hCg⟩ := GG.reads HS) | ((go_at_call 22); (with_reducible refine (wigwagref05_SameAll.calls 500 Al cl fs Ag cg fs true _ hCl hcl hCg hcg hSA).mono ?_); rintro e w' ⟨rfl, hb⟩; replace HS := HS.below hb; clear hb))
     go_ret
     exact ⟨rfl, HS.out⟩
    ·have d1 : decide ((q : Int) < (l0.length : Int)) = false := decide_eq_false (by omega)
     go_wp2_with (first | ((go_at_call 19); (with_reducible refine (frame_All.calls 500 (fun k_ => some k_ = (.slice Au U.length cu : Value).ownBlock) _ _ U fs 50 _ ?side1 hAll).mono ?_); (case side1 => exact Kd.R_V (Kd.R_tight rfl OB.out)); rintro e w' ⟨vl, rfl, hl_, hb⟩; obtain ⟨Al, cl, rfl, hcl, hCl⟩ := Kd.S_reads hl_; replace HS := HS.below hb; replace OB := OB.below hb; replace GG := GG.below hb; clear hb hl_; obtain ⟨Ag, cg, rfl, hcg, hCg⟩ := GG.reads HS) | ((go_at_call 22); (with_reducible refine (wigwagref05_SameAll.calls 500 Al cl fs Ag cg fs true _ hCl hcl hCg hcg hSA).mono ?_); rintro e w' ⟨rfl, hb⟩; replace HS := HS.below hb; clear hb))
     go_ret
     exact ⟨rfl, HS.out⟩
   ·have hpos : 0 < fs.length := List.length_pos_iff.2 hn
    have hAll : frame_All.f 500 U = some (fs, 0) := by rw [hU]; exact all_ok (K := 500) hG hpos (by omega) (by omega)
    have d4 : decide ((fs.length : Int) > 0) = true := decide_eq_true (by omega)
    have d5 : decide ((0 : Int) < (fs.length : Int)) = true := decide_eq_true (by omega)
    have d6 : decide (0 < fs.length) = true := decide_eq_true hpos
    clear hU
    rcases Nat.lt_or_ge q l0.length with hl | hl
    ·have d1 : decide ((q : Int) < (l0.length : Int)) = true := decide_eq_true (by omega)
     have d2 : decide ((q : Int) < (10 : Int)) = false := decide_eq_false (by omega)
     go_wp2_with (first | ((go_at_call 19); (with_reducible refine (frame_All.calls 500 (fun k_ => some k_ = (.slice Au U.length cu : Value).ownBlock) _ _ U fs 0 _ ?side1 hAll).mono ?_); (case side1 => exact Kd.R_V (Kd.R_tight rfl OB.out)); rintro e w' ⟨vl, rfl, hl_, hb⟩; obtain ⟨Al, cl, rfl, hcl, hCl⟩ := Kd.S_reads hl_; replace HS := HS.below hb; replace OB := OB.below hb; replace GG := GG.below hb; clear hb hl_; obtain ⟨Ag, cg, rfl, hcg, hCg⟩ := GG.reads HS) | ((go_at_call 22); (with_reducible refine (wigwagref05_SameAll.calls 500 Al cl fs Ag cg fs true _ hCl hcl hCg hcg hSA).mono ?_); rintro e w' ⟨rfl, hb⟩; replace HS := HS.below hb; clear hb))
     go_ret
     exact ⟨rfl, HS.out⟩
    ·have d1 : decide ((q : Int) < (l0.length : Int)) = false := decide_eq_false (by omega)
     go_wp2_with (first | ((go_at_call 19); (with_reducible refine (frame_All.calls 500 (fun k_ => some k_ = (.slice Au U.length cu : Value).ownBlock) _ _ U fs 0 _ ?side1 hAll).mono ?_); (case side1 => exact Kd.R_V (Kd.R_tight rfl OB.out)); rintro e w' ⟨vl, rfl, hl_, hb⟩; obtain ⟨Al, cl, rfl, hcl, hCl⟩ := Kd.S_reads hl_; replace HS := HS.below hb; replace OB := OB.below hb; replace GG := GG.below hb; clear hb hl_; obtain ⟨Ag, cg, rfl, hcg, hCg⟩ := GG.reads HS) | ((go_at_call 22); (with_reducible refine (wigwagref05_SameAll.calls 500 Al cl fs Ag cg fs true _ hCl hcl hCg hcg hSA).mono ?_); rintro e w' ⟨rfl, hb⟩; replace HS := HS.below hb; clear hb))
     go_ret
     exact ⟨rfl, HS.out⟩
end Go.Proofs.Ytphakdfholkbdaa
end
