/- Several texts of this claim in one: FrQ FrR -/
import Derived.Outline
import Derived.Handy
import Derived.Recover
import Derived.WalkSmall
import Derived.Laws.Externs
import Derived.Laws.CopyOwn
import Derived.Lib.AppendZerosOnto
import Derived.Lib.Overlaps
import Derived.Deep.RegionLaw
import Derived.Test.YtphakdfholkbdaaKA
import Derived.Test.YtphakdfholkbdaaKW
import Derived.Test.YtphakdfholkbdaaKB
import Derived.Test.YtphakdfholkbdaaKQ
import Derived.Test.YtphakdfholkbdaaKPFrax9
import Derived.Test.YtphakdfholkbdaaKD
import Derived.Test.YtphakdfholkbdaaKPFrax22
import Derived.Test.YtphakdfholkbdaaKG
section
namespace Go.Proofs.Ytphakdfholkbdaa
open Go.Proofs.Ytphakdfholkbdaa.PFra Go.RowKit Go.Proofs.YtphakdfholkbdaaW.PrintWords Go.Proofs.YtphakdfholkbdaaW.PrintLast Go.Proofs.YtphakdfholkbdaaW.PrintMore
set_option maxRecDepth 100000
set_option maxHeartbeats 4000000
set_option linter.unusedVariables false
set_option linter.unusedSimpArgs false
def Num1 (p : List Int) (v : Int) : Prop := (∀ q, uNum (p ++ q) = some (v, q)) ∧ (uPut v).length ≤ p.length ∧ 0 ≤ v ∧ v < 4611686018427387904 ∧ 0 < p.length
inductive RL : List Int → List Int → Prop
 | nil : RL [] []
 | cons {p q : List Int} {v : Int} {ns : List Int} : Num1 p v → RL q ns → RL (p ++ q) (v :: ns)
theorem RL.one {p : List Int} {v : Int} (h : Num1 p v) : RL p [v] := by simpa using RL.cons h RL.nil
theorem RL.len {p ns : List Int} (h : RL p ns) : (uNums ns).length ≤ p.length := by
 induction h with
 | nil => simp [uNums]
 | cons h _ ih =>
  have := h.2.1
  simp only [uNums, List.flatMap_cons, List.length_append] at ih ⊢
  omega
theorem RL.inv {p ns : List Int} {v : Int} (h : RL p (v :: ns)) : ∃ p1 p2, p = p1 ++ p2 ∧ Num1 p1 v ∧ RL p2 ns := by
 cases h with
 | cons h1 h2 => exact ⟨_, _, rfl, h1, h2⟩
theorem RL.split {ns ms p : List Int} (h : RL p (ns ++ ms)) : ∃ p1 p2, p = p1 ++ p2 ∧ RL p1 ns ∧ RL p2 ms := by
 induction ns generalizing p with
 | nil => exact ⟨[], p, rfl, RL.nil, h⟩
 | cons v ns ih =>
  obtain ⟨a, b, rfl, h1, h2⟩ := RL.inv h
  obtain ⟨c, d, rfl, h3, h4⟩ := ih h2
  exact ⟨a ++ c, d, by rw [List.append_assoc], RL.cons h1 h3, h4⟩
def gapN (x : S47) : List S47 → Int
 | [] => x.f1 - 1
 | y :: _ => y.f0 - x.f1 - 1
def nOver : List S47 → List S47 → List Int
 | [], _ => []
 | x :: t, s => nOver t s ++ [gapN x (t ++ s), x.f1 - x.f0 - 1]
theorem okS_mem : ∀ {l : List S47} {p : Option Int}, okS p l = true → ∀ x ∈ l, x.f0 < x.f1 ∧ x.f1 ≤ 4611686018427387904
 | [], _, _, x, hx => by cases hx
 | y :: l, p, h, x, hx => by
  rw [okS.eq_def] at h
  simp only [Bool.and_eq_true, decide_eq_true_eq] at h
  rcases List.mem_cons.1 hx with rfl | hx
  ·exact ⟨h.1.1.1, h.1.1.2⟩
  ·exact okS_mem h.2 x hx
theorem chk_parts {a0 a1 a2 a3 a4 a5 a6 : Int} {a7 : Bool} {n : Nat} {s : List S47} {os : List Nat} (ho : fOffs a0 = some os) (h : uChk a0 a1 a2 a3 a4 a5 a6 a7 n s = 0) :
  uBad os a1 a2 a3 a4 a5 a6 = false ∧ (a0 = 2 ∨ a0 = 3 → spOk s = true) ∧ (¬ (a0 = 2 ∨ a0 = 3) → s = []) ∧ n ≤ 1200 ∧ (a0 = 14 ∨ a7 = false ∧ n = 0) := by
 unfold uChk at h
 rw [ho] at h
 simp only at h
 split at h
 ·cases h
 ·rename_i hb
  refine ⟨by simpa using hb, ?_⟩
  split at h
  ·rename_i hk
   split at h
   ·rename_i hs
    have := tail_zero h
    exact ⟨fun _ => hs, fun hh => absurd hk hh, this.1, this.2⟩
   ·cases h
  ·rename_i hk
   split at h
   ·cases h
   ·have := tail_zero h
    exact ⟨fun hh => absurd hh hk, fun _ => List.eq_nil_of_length_eq_zero (by omega), this.1, this.2⟩
theorem bad_each {os : List Nat} {g : Nat → Int} (h : uBad os (g 1) (g 2) (g 3) (g 4) (g 5) (g 6) = false) (j : Nat) (h1 : 1 ≤ j) (h6 : j ≤ 6) : (j ∉ os → g j = 0) ∧ (j ∈ os → g j ≤ 4611686018427387903) := by
 unfold uBad at h
 simp only [Bool.or_eq_false_iff] at h
 obtain ⟨⟨⟨⟨⟨b1, b2⟩, b3⟩, b4⟩, b5⟩, b6⟩ := h
 have hb : badF os j (g j) = false := by
  have : j = 1 ∨ j = 2 ∨ j = 3 ∨ j = 4 ∨ j = 5 ∨ j = 6 := by omega
  rcases this with rfl | rfl | rfl | rfl | rfl | rfl <;> assumption
 unfold badF at hb
 refine ⟨fun hj => ?_, fun hj => ?_⟩
 ·rw [if_neg hj] at hb
  simpa using hb
 ·rw [if_pos hj] at hb
  have := of_decide_eq_false hb
  omega
def numsOf (K : Int) (fin : Bool) (os : List Nat) (g : Nat → Int) (s : List S47) (n : Nat) : List Int :=
 [uKind K fin] ++ (if s.length = 0 then [] else (s.length : Int) :: nOver s []) ++ os.map g ++ (if K = 14 then [(n : Int)] else [])
def gA (a1 a2 a3 a4 a5 a6 : Int) : Nat → Int := fun j => selA j a1 a2 a3 a4 a5 a6
theorem okS_next : ∀ {l : List S47} {p : Option Int} {i : Nat}, okS p l = true → (h : i + 1 < l.length) → (l[i]'(by omega)).f1 < (l[i + 1]).f0
 | [], _, _, _, h => by simp at h
 | [x], _, i, _, h => by simp at h
 | x :: y :: l, p, 0, h, _ => by
  rw [okS.eq_def] at h
  simp only [Bool.and_eq_true] at h
  have h2 := h.2
  rw [okS.eq_def] at h2
  simp only [Bool.and_eq_true, decide_eq_true_eq] at h2
  exact h2.1.2
 | x :: y :: l, p, i + 1, h, hi => by
  rw [okS.eq_def] at h
  simp only [Bool.and_eq_true] at h
  exact okS_next (l := y :: l) (i := i) h.2 (by simpa using hi)
theorem spNums_eq {l : List S47} (hok : okS none l = true) (h0 : ∀ x ∈ l, 0 ≤ x.f0) : ∀ k, k ≤ l.length → spNums l k = nOver (l.drop (l.length - k)) [] := by
 intro k
 induction k with
 | zero => intro _; rw [Nat.sub_zero, List.drop_length]; rfl
 | succ k ih =>
  intro hk
  have hi : l.length - (k + 1) < l.length := by omega
  have hg : l.getD (l.length - 1 - k) z47 = l[l.length - (k + 1)] := by
   rw [show l.length - 1 - k = l.length - (k + 1) by omega]
   simp [List.getD, List.getElem?_eq_getElem hi]
  rw [spNums_succ, ih (by omega), List.drop_eq_getElem_cons hi, nOver, show l.length - (k + 1) + 1 = l.length - k by omega, List.append_nil]
  have hm := List.getElem_mem hi
  have hb := okS_mem hok _ hm
  have hz := h0 _ hm
  congr 1
  have e2 : lenAt l (l.length - 1 - k) = l[l.length - (k + 1)].f1 - l[l.length - (k + 1)].f0 - 1 := by
   unfold lenAt
   rw [hg, w64 (x := l[l.length - (k + 1)].f1 - l[l.length - (k + 1)].f0) ⟨by omega, by omega⟩, w64 ⟨by omega, by omega⟩]
  have e1 : gapAt l (l.length - 1 - k) = gapN l[l.length - (k + 1)] (l.drop (l.length - k)) := by
   unfold gapAt
   by_cases hlast : k = 0
   ·subst hlast
    rw [if_pos (by omega), hg, Nat.sub_zero, List.drop_length, w64 ⟨by omega, by omega⟩]
    rfl
   ·have hi2 : l.length - k < l.length := by omega
    have hg2 : l.getD (l.length - 1 - k + 1) z47 = l[l.length - k] := by
     rw [show l.length - 1 - k + 1 = l.length - k by omega]
     simp [List.getD, List.getElem?_eq_getElem hi2]
    have hn : l[l.length - (k + 1)].f1 < l[l.length - k].f0 := by
     have := okS_next (i := l.length - (k + 1)) hok (by omega)
     simpa only [show l.length - (k + 1) + 1 = l.length - k by omega] using this
    have hb2 := okS_mem hok _ (List.getElem_mem hi2)
    rw [if_neg (by omega), hg, hg2, List.drop_eq_getElem_cons hi2, w64 (x := l[l.length - k].f0 - l[l.length - (k + 1)].f1) ⟨by omega, by omega⟩, w64 ⟨by omega, by omega⟩]
    rfl
  rw [e1, e2]
theorem enc_eq {a0 a1 a2 a3 a4 a5 a6 : Int} {a7 : Bool} {l8 : List Int} {l9 : List S47} {os : List Nat} (ho : fOffs a0 = some os) (hc : uChk a0 a1 a2 a3 a4 a5 a6 a7 l8.length l9 = 0) (h0 : ∀ x ∈ l9, 0 ≤ x.f0) :
  uEnc a0 a1 a2 a3 a4 a5 a6 a7 l8 l9 = uNums (numsOf a0 a7 os (gA a1 a2 a3 a4 a5 a6) l9 l8.length) ++ l8 := by
 obtain ⟨_, hsp, hno, _, hfin⟩ := chk_parts ho hc
 have hs : (if l9.length = 0 then [] else uNums [(l9.length : Int)] ++ uNums (spNums l9 l9.length)) = uNums (if l9.length = 0 then [] else (l9.length : Int) :: nOver l9 []) := by
  by_cases hl : l9.length = 0
  ·rw [if_pos hl, if_pos hl]; rfl
  ·rw [if_neg hl, if_neg hl]
   have hk : a0 = 2 ∨ a0 = 3 := Decidable.byContradiction fun h => hl (by rw [hno h]; rfl)
   have hok := hsp hk
   unfold spOk at hok
   simp only [Bool.and_eq_true] at hok
   rw [spNums_eq hok.2 h0 l9.length (Nat.le_refl _), Nat.sub_self, List.drop_zero, ← uNums_app]
   rfl
 have hd : (if a0 = 14 then uNums [(l8.length : Int)] ++ l8 else []) = uNums (if a0 = 14 then [(l8.length : Int)] else []) ++ l8 := by
  by_cases h : a0 = 14
  ·rw [if_pos h, if_pos h]
  ·rw [if_neg h, if_neg h]
   rcases hfin with hh | ⟨_, hh⟩
   ·exact absurd hh h
   ·rw [List.eq_nil_of_length_eq_zero hh]; rfl
 unfold uEnc numsOf
 rw [hs, hd, ho]
 simp only [uNums_app, List.append_assoc, Option.getD_some]
 rfl
theorem nums_bound {a0 a1 a2 a3 a4 a5 a6 : Int} {a7 : Bool} {n : Nat} {l9 : List S47} {os : List Nat} (ho : fOffs a0 = some os) (hc : uChk a0 a1 a2 a3 a4 a5 a6 a7 n l9 = 0) (h0 : ∀ x ∈ l9, 0 ≤ x.f0) (hw : ∀ j, 0 ≤ gA a1 a2 a3 a4 a5 a6 j) : ∀ v ∈ numsOf a0 a7 os (gA a1 a2 a3 a4 a5 a6) l9 n, 0 ≤ v ∧ v < 4611686018427387904 := by
 obtain ⟨hbad, hsp, hno, hn, hfin⟩ := chk_parts ho hc
 obtain ⟨hr0, hr1⟩ := fOffs_range ho
 obtain ⟨hm, _⟩ := fOffs_mem ho
 intro v hv
 unfold numsOf at hv
 simp only [List.mem_append, List.mem_singleton] at hv
 rcases hv with ((rfl | hv) | hv) | hv
 ·unfold uKind; split <;> omega
 ·by_cases hl : l9.length = 0
  ·rw [if_pos hl] at hv; cases hv
  ·rw [if_neg hl] at hv
   have hk : a0 = 2 ∨ a0 = 3 := Decidable.byContradiction fun h => hl (by rw [hno h]; rfl)
   have hok := hsp hk
   unfold spOk at hok
   simp only [Bool.and_eq_true, decide_eq_true_eq] at hok
   rcases List.mem_cons.1 hv with rfl | hv
   ·omega
   ·have key : ∀ (l : List S47) (p : Option Int), okS p l = true → (∀ x ∈ l, 0 ≤ x.f0) → ∀ v ∈ nOver l [], 0 ≤ v ∧ v < 4611686018427387904 := by
     intro l
     induction l with
     | nil => intro p _ _ v hv; cases hv
     | cons x t ih =>
      intro p hp hx v hv
      have hxx := okS_mem hp x (by simp)
      have hx0 := hx x (by simp)
      have ht : okS (some x.f1) t = true := by
       rw [okS.eq_def] at hp
       simp only [Bool.and_eq_true] at hp
       exact hp.2
      rw [nOver, List.append_nil] at hv
      simp only [List.mem_append, List.mem_cons, List.not_mem_nil, or_false] at hv
      rcases hv with hv | rfl | rfl
      ·exact ih _ ht (fun y hy => hx y (by simp [hy])) v hv
      ·cases t with
       | nil => simp only [gapN]; omega
       | cons y t =>
        have hy := okS_mem ht y (by simp)
        have hlt : x.f1 < y.f0 := by
         rw [okS.eq_def] at ht
         simp only [Bool.and_eq_true, decide_eq_true_eq] at ht
         exact ht.1.2
        simp only [gapN]; omega
      ·omega
    exact key l9 none hok.2 h0 v hv
 ·obtain ⟨o, ho', rfl⟩ := List.mem_map.1 hv
  obtain ⟨h1, h6⟩ := hm o ho'
  have := (bad_each (g := gA a1 a2 a3 a4 a5 a6) hbad o h1 h6).2 ho'
  exact ⟨hw o, by omega⟩
 ·by_cases h : a0 = 14
  ·rw [if_pos h, List.mem_singleton] at hv
   subst hv
   omega
  ·rw [if_neg h] at hv; cases hv
theorem gA_nn {a1 a2 a3 a4 a5 a6 : Int} (W1 : W64 a1) (W2 : W64 a2) (W3 : W64 a3) (W4 : W64 a4) (W5 : W64 a5) (W6 : W64 a6) (j : Nat) : 0 ≤ gA a1 a2 a3 a4 a5 a6 j := by
 have e : W64 (gA a1 a2 a3 a4 a5 a6 j) := selA_w' j W1 W2 W3 W4 W5 W6
 exact e.1
theorem chk_fOffs {a0 a1 a2 a3 a4 a5 a6 : Int} {a7 : Bool} {n : Nat} {l9 : List S47} (hc : uChk a0 a1 a2 a3 a4 a5 a6 a7 n l9 = 0) : ∃ os, fOffs a0 = some os := by
 cases h : fOffs a0 with
 | none => unfold uChk at hc; rw [h] at hc; cases hc
 | some os => exact ⟨os, rfl⟩
theorem awake_ok {k : Nat} (hk : 60 ≤ k) : wigwaglaw05_awake.f k = some true := at_rounds wigwaglaw05_awake.mono hk (by decide +kernel)
theorem nOver_len : ∀ (t s : List S47), (nOver t s).length = 2 * t.length
 | [], _ => rfl
 | x :: t, s => by simp [nOver, nOver_len t s]; omega
theorem RL.bound {p ns : List Int} (h : RL p ns) : ∀ v ∈ ns, 0 ≤ v ∧ v < 4611686018427387904 := by
 induction h with
 | nil => intro v hv; cases hv
 | cons h _ ih =>
  intro v hv
  rcases List.mem_cons.1 hv with rfl | hv
  ·exact ⟨h.2.2.1, h.2.2.2.1⟩
  ·exact ih v hv
theorem encode_ok {k : Nat} {a0 a1 a2 a3 a4 a5 a6 : Int} {a7 : Bool} {l8 : List Int} {l9 : List S47} (W1 : W64 a1) (W2 : W64 a2) (W3 : W64 a3) (W4 : W64 a4) (W5 : W64 a5) (W6 : W64 a6) (h8 : l8.length < 1000000) (h9 : l9.length < 1000000) (hk : l9.length < k) (hc : uChk a0 a1 a2 a3 a4 a5 a6 a7 l8.length l9 = 0) :
  frame_Encode.f k a0 a1 a2 a3 a4 a5 a6 a7 l8 l9 = some (uEnc a0 a1 a2 a3 a4 a5 a6 a7 l8 l9, 0) := by
 obtain ⟨os, ho⟩ := chk_fOffs hc
 obtain ⟨_, hsp, hno, _⟩ := chk_parts ho hc
 have hl9 : l9.length ≤ 32 := by
  by_cases hk : a0 = 2 ∨ a0 = 3
  ·have hok := hsp hk
   unfold spOk at hok
   simp only [Bool.and_eq_true, decide_eq_true_eq] at hok
   exact hok.1.2
  ·rw [hno hk]; simp
 unfold frame_Encode.f
 rw [chk_eq W1 W2 W3 W4 W5 W6 h8 h9 hk, hc, Option.bind_some, if_pos rfl, if_pos hl9]
theorem chk_01 (a0 a1 a2 a3 a4 a5 a6 : Int) (a7 : Bool) (n : Nat) (l9 : List S47) : uChk a0 a1 a2 a3 a4 a5 a6 a7 n l9 = 0 ∨ uChk a0 a1 a2 a3 a4 a5 a6 a7 n l9 = 50 := by
 unfold uChk uTail
 repeat' split
 all_goals first | exact .inl rfl | exact .inr rfl
theorem encode_no {k : Nat} {a0 a1 a2 a3 a4 a5 a6 : Int} {a7 : Bool} {l8 : List Int} {l9 : List S47} (W1 : W64 a1) (W2 : W64 a2) (W3 : W64 a3) (W4 : W64 a4) (W5 : W64 a5) (W6 : W64 a6) (h8 : l8.length < 1000000) (h9 : l9.length < 1000000) (hk : l9.length < k) (hc : uChk a0 a1 a2 a3 a4 a5 a6 a7 l8.length l9 ≠ 0) :
  frame_Encode.f k a0 a1 a2 a3 a4 a5 a6 a7 l8 l9 = some ([], 50) := by
 unfold frame_Encode.f
 rw [chk_eq W1 W2 W3 W4 W5 W6 h8 h9 hk, Option.bind_some, if_neg hc]
 rcases chk_01 a0 a1 a2 a3 a4 a5 a6 a7 l8.length l9 with h | h
 ·exact absurd h hc
 ·rw [h]
theorem rsp_loop (l : List S47) (hl : l.length < 1000000) : ∀ d K i : Nat, i + d = l.length → d < K → wigwagref05_spans.l0 K l (i : Int) = some (okS (prevS l i) (l.drop i)) := by
 intro d
 induction d with
 | zero =>
  intro K i hi hk
  obtain ⟨k, rfl⟩ : ∃ k, K = k + 1 := ⟨K - 1, by omega⟩
  rw [wigwagref05_spans.l0, if_neg (by omega), List.drop_of_length_le (by omega)]
  simp only [okS]
 | succ d ih =>
  intro K i hi hk
  obtain ⟨k, rfl⟩ : ∃ k, K = k + 1 := ⟨K - 1, by omega⟩
  have hlt : i < l.length := by omega
  have hn : wrap64 ((i : Int) + 1) = ((i + 1 : Nat) : Int) := by unfold wrap64; omega
  have ih' := ih k (i + 1) (by omega) (by omega)
  rw [wigwagref05_spans.l0, if_pos (by omega), if_pos (by omega), okS_step hlt, hn, ih', rdT]
  by_cases h1 : (l.getD i z47).f0 ≥ (l.getD i z47).f1
  ·rw [if_pos h1, decide_eq_false (by omega : ¬ (l.getD i z47).f0 < (l.getD i z47).f1)]; simp
  ·rw [if_neg h1, decide_eq_true (by omega : (l.getD i z47).f0 < (l.getD i z47).f1)]
   by_cases h2 : (l.getD i z47).f1 > 4611686018427387904
   ·rw [if_pos h2, decide_eq_false (by omega : ¬ (l.getD i z47).f1 ≤ 4611686018427387904)]; simp
   ·rw [if_neg h2, decide_eq_true (by omega : (l.getD i z47).f1 ≤ 4611686018427387904)]
    by_cases h3 : i = 0
    ·rw [if_neg (by omega), if_pos h3]; simp
    ·have hp : wrap64 ((i : Int) - 1) = ((i - 1 : Nat) : Int) := by unfold wrap64; omega
     rw [if_pos (by omega), hp, if_pos (by omega), if_pos (by omega), rdT, if_neg h3]
     by_cases h4 : (l.getD i z47).f0 ≤ (l.getD (i - 1) z47).f1
     ·rw [if_pos h4, decide_eq_false (by omega : ¬ (l.getD (i - 1) z47).f1 < (l.getD i z47).f0)]; simp
     ·rw [if_neg h4, decide_eq_true (by omega : (l.getD (i - 1) z47).f1 < (l.getD i z47).f0)]; simp
theorem rsp_eq {l : List S47} {K : Nat} (hl : l.length < 1000000) (hk : l.length < K) : wigwagref05_spans.f K l = some (spOk l) := by
 have h := rsp_loop l hl l.length K 0 (by omega) (by omega)
 unfold wigwagref05_spans.f spOk
 by_cases h1 : (l.length : Int) < 1
 ·rw [if_pos h1, decide_eq_false (by omega : ¬ 1 ≤ l.length)]; simp
 ·rw [if_neg h1, decide_eq_true (by omega : 1 ≤ l.length)]
  by_cases h2 : (l.length : Int) > 32
  ·rw [if_pos h2, decide_eq_false (by omega : ¬ l.length ≤ 32)]; simp
  ·rw [if_neg h2, decide_eq_true (by omega : l.length ≤ 32), show (0 : Int) = ((0 : Nat) : Int) from rfl, h]
   simp [prevS]
theorem rput_eq {x : Int} (h0 : 0 ≤ x) (h1 : x < 4611686018427387904) (k : Nat) : ∃ e, wigwagref03_Put.f (k + 20) x = some (uPut x, e) := by
 unfold wigwagref03_Put.f wigwagref03_Size.f uPut
 by_cases h2 : x < 64
 ·rw [if_pos h2, if_pos h2]
  simp [wigwagref03_Put.l0, shr, wrap64, rd, IntKind.bits, IntKind.wrap, IntKind.signed]
  omega
 ·rw [if_neg h2, if_neg h2]
  by_cases h3 : x < 16384
  ·rw [if_pos h3, if_pos h3]
   simp [wigwagref03_Put.l0, shr, wrap64, rd, IntKind.bits, IntKind.wrap, IntKind.signed]
   omega
  ·rw [if_neg h3, if_neg h3]
   by_cases h4 : x < 1073741824
   ·rw [if_pos h4, if_pos h4]
    simp [wigwagref03_Put.l0, shr, wrap64, rd, IntKind.bits, IntKind.wrap, IntKind.signed]
    omega
   ·rw [if_neg h4, if_neg h4, if_pos (by omega), if_pos h1]
    simp [wigwagref03_Put.l0, shr, wrap64, rd, IntKind.bits, IntKind.wrap, IntKind.signed]
    omega
theorem rput_eq' {x : Int} (h0 : 0 ≤ x) (h1 : x < 4611686018427387904) {K : Nat} (hK : 20 ≤ K) : ∃ e, wigwagref03_Put.f K x = some (uPut x, e) := by
 obtain ⟨k, rfl⟩ : ∃ k, K = k + 20 := ⟨K - 20, by omega⟩
 exact rput_eq h0 h1 k
theorem rnum_loop {l : List Int} (hl : ∀ v ∈ l, 0 ≤ v ∧ v < 4611686018427387904) (hn : l.length ≤ 1000) : ∀ (d K i : Nat) (out : List Int), i + d = l.length → d + 20 < K → out.length + 8 * d ≤ 100000 → wigwagref05_numbers.l0 K l out (i : Int) = some (out ++ uNums (l.drop i)) := by
 intro d
 induction d with
 | zero =>
  intro K i out hi hk ho
  obtain ⟨k, rfl⟩ : ∃ m, K = m + 1 := ⟨K - 1, by omega⟩
  simp only [wigwagref05_numbers.l0]
  rw [if_neg (by omega), List.drop_of_length_le (by omega)]
  simp [uNums]
 | succ d ih =>
  intro K i out hi hk ho
  obtain ⟨k, rfl⟩ : ∃ m, K = m + 1 := ⟨K - 1, by omega⟩
  have hlt : i < l.length := by omega
  simp only [wigwagref05_numbers.l0]
  rw [if_pos (by omega), if_pos (by omega)]
  have hrd : rd l (i : Int) = l[i] := by simp [rd, List.getD, List.getElem?_eq_getElem hlt]
  obtain ⟨e, he⟩ := rput_eq' (hl l[i] (List.getElem_mem hlt)).1 (hl l[i] (List.getElem_mem hlt)).2 (K := k) (by omega)
  rw [hrd, he]
  simp only [Option.bind_some]
  have hu := uPut_len l[i]
  have hw : wrap64 ((i : Int) + 1) = ((i + 1 : Nat) : Int) := by unfold wrap64; omega
  rw [if_pos (by omega), hw, ih k (i + 1) _ (by omega) (by omega) (by simp only [List.length_append]; omega)]
  rw [List.drop_eq_getElem_cons hlt]
  simp only [uNums, List.flatMap_cons, List.append_assoc]
theorem rnum_eq {l : List Int} (hl : ∀ v ∈ l, 0 ≤ v ∧ v < 4611686018427387904) (hn : l.length ≤ 1000) {K : Nat} (hK : l.length + 20 < K) : wigwagref05_numbers.f K l = some (uNums l) := by
 have := rnum_loop hl hn l.length K 0 [] (by omega) hK (by simp; omega)
 unfold wigwagref05_numbers.f
 simpa using this
theorem rchk_eq {K : Nat} {a0 a1 a2 a3 a4 a5 a6 : Int} {a7 : Bool} {l8 : List Int} {l9 : List S47} (W1 : W64 a1) (W2 : W64 a2) (W3 : W64 a3) (W4 : W64 a4) (W5 : W64 a5) (W6 : W64 a6) (h8 : l8.length < 1000000) (h9 : l9.length < 1000000) (hK : l9.length < K) :
  wigwagref05_Check.f K a0 a1 a2 a3 a4 a5 a6 a7 l8 l9 = some (uChk a0 a1 a2 a3 a4 a5 a6 a7 l8.length l9) := by
 unfold wigwagref05_Check.f uChk
 rw [if_pos ⟨W1, W2, W3, W4, W5, W6, h8, h9⟩]
 cases fOffs a0 with
 | none => rfl
 | some os =>
  simp only
  by_cases hb : uBad os a1 a2 a3 a4 a5 a6 = true
  ·rw [if_pos hb, if_pos hb]
  ·rw [if_neg hb, if_neg hb, rsp_eq h9 hK, Option.bind_some]
   by_cases hk : a0 = 2 ∨ a0 = 3
   ·have e : (a0 == 2 || a0 == 3) = true := by simpa using hk
    rw [if_pos hk, e]
    cases hs : spOk l9 with
    | true => rw [if_neg (by simp), if_pos rfl]
    | false => rw [if_pos (by simp), if_neg (by simp)]
   ·have e : (a0 == 2 || a0 == 3) = false := by simpa using hk
    rw [if_neg hk, e]
    by_cases hl : 0 < l9.length
    ·rw [if_pos (.inr ⟨rfl, hl⟩), if_pos hl]
    ·have hs : spOk l9 = false := by
      unfold spOk
      rw [decide_eq_false (by omega : ¬ 1 ≤ l9.length)]
      rfl
     rw [hs, if_neg (fun h => h.elim (fun h => absurd h (by decide)) (fun h => hl h.2)), if_neg hl]
theorem gA_o (a1 a2 a3 a4 a5 a6 : Int) : gA a1 a2 a3 a4 a5 a6 1 = a1 ∧ gA a1 a2 a3 a4 a5 a6 2 = a2 ∧ gA a1 a2 a3 a4 a5 a6 3 = a3 ∧ gA a1 a2 a3 a4 a5 a6 4 = a4 ∧ gA a1 a2 a3 a4 a5 a6 5 = a5 ∧ gA a1 a2 a3 a4 a5 a6 6 = a6 := ⟨rfl, rfl, rfl, rfl, rfl, rfl⟩
theorem laid_loop {a0 a1 a2 a3 a4 a5 a6 : Int} {a7 : Bool} {l8 : List Int} {s : List S47} (hok : okS none s = true) (h0 : ∀ x ∈ s, 0 ≤ x.f0) (hs : s.length ≤ 1000) : ∀ (i K : Nat) (acc : List Int), i < s.length → i < K → acc.length + 2 * i ≤ 10000 → wigwagref05_laid.l0 K acc ((i : Int) - 1) a0 a1 a2 a3 a4 a5 a6 a7 l8 s = some (acc ++ (nOver s []).drop (nOver (s.drop i) []).length ++ [a5] ++ (if a0 = 3 then [a6] else [])) := by
 intro i
 induction i with
 | zero =>
  intro K acc hi hk ha
  obtain ⟨k, rfl⟩ : ∃ m, K = m + 1 := ⟨K - 1, by omega⟩
  rw [wigwagref05_laid.l0, if_neg (by omega), if_pos (by omega), List.drop_zero, List.drop_length]
  simp only [Option.bind_some, List.append_nil]
  by_cases h3 : a0 = 3
  ·rw [if_pos h3, if_pos h3, if_pos (by simp; omega)]
  ·rw [if_neg h3, if_neg h3, List.append_nil]
 | succ i ih =>
  intro K acc hi hk ha
  obtain ⟨k, rfl⟩ : ∃ m, K = m + 1 := ⟨K - 1, by omega⟩
  have e1 : ((i + 1 : Nat) : Int) - 1 = (i : Int) := by omega
  have e2 : wrap64 ((i : Int) + 1) = ((i + 1 : Nat) : Int) := by unfold wrap64; omega
  have e3 : wrap64 ((i : Int) - 1) = (i : Int) - 1 := by unfold wrap64; omega
  have hi0 : i < s.length := by omega
  have hg0 : s.getD i z47 = s[i] := by simp [List.getD, List.getElem?_eq_getElem hi0]
  have hg1 : s.getD (i + 1) z47 = s[i + 1] := by simp [List.getD, List.getElem?_eq_getElem hi]
  have b0 := okS_mem hok _ (List.getElem_mem hi0)
  have b1 := okS_mem hok _ (List.getElem_mem hi)
  have n0 := h0 _ (List.getElem_mem hi0)
  have n1 := h0 _ (List.getElem_mem hi)
  have hn := okS_next (i := i) hok hi
  rw [e1, wigwagref05_laid.l0, e2, if_pos (by omega), if_pos (by omega), if_pos (by omega), if_pos (by omega), if_pos (by omega), rdT, rdT, hg0, hg1, e3]
  rw [w64 (x := s[i + 1].f0 - s[i].f1) ⟨by omega, by omega⟩, w64 (x := s[i + 1].f0 - s[i].f1 - 1) ⟨by omega, by omega⟩, w64 (x := s[i].f1 - s[i].f0) ⟨by omega, by omega⟩, w64 (x := s[i].f1 - s[i].f0 - 1) ⟨by omega, by omega⟩]
  simp only [Option.bind_some]
  rw [if_pos (by simp; omega), ih k _ hi0 (by omega) (by simp; omega)]
  have hd : nOver (s.drop i) [] = nOver (s.drop (i + 1)) [] ++ [s[i + 1].f0 - s[i].f1 - 1, s[i].f1 - s[i].f0 - 1] := by
   have hgap : gapN s[i] (s.drop (i + 1)) = s[i + 1].f0 - s[i].f1 - 1 := by rw [List.drop_eq_getElem_cons hi]; rfl
   rw [List.drop_eq_getElem_cons hi0, nOver, List.append_nil, hgap]
  have hpre : ∀ j, j ≤ s.length → ∃ q, nOver s [] = nOver (s.drop j) [] ++ q := by
   intro j
   induction j with
   | zero => intro _; exact ⟨[], by simp⟩
   | succ j ihj =>
    intro hj
    obtain ⟨q, hq⟩ := ihj (by omega)
    rw [hq, List.drop_eq_getElem_cons (by omega : j < s.length), nOver, List.append_assoc]
    exact ⟨_, rfl⟩
  obtain ⟨q, hq⟩ := hpre i (by omega)
  rw [hd] at hq ⊢
  rw [hq, List.drop_left, List.append_assoc (nOver (s.drop (i + 1)) []), List.drop_left]
  simp
theorem fOffs_cases {a0 : Int} {os : List Nat} (h : fOffs a0 = some os) : (a0 = 0 ∨ a0 = 1 ∨ a0 = 30) ∧ os = [] ∨ (a0 = 2) ∧ os = [5] ∨ (a0 = 3) ∧ os = [5, 6] ∨ (a0 = 4) ∧ os = [1, 4, 3] ∨ (a0 = 5) ∧ os = [1, 4] ∨ (a0 = 6) ∧ os = [3, 2, 1] ∨ (a0 = 14) ∧ os = [1, 2] ∨ (a0 = 16 ∨ a0 = 18 ∨ a0 = 20) ∧ os = [3] ∨ (a0 = 17 ∨ a0 = 21) ∧ os = [1, 3] ∨ (a0 = 28) ∧ os = [4] := by
 unfold fOffs at h
 split at h
 ·exact .inl ⟨‹_›, (Option.some.inj h).symm⟩
 split at h
 ·exact .inr (.inl ⟨‹_›, (Option.some.inj h).symm⟩)
 split at h
 ·exact .inr (.inr (.inl ⟨‹_›, (Option.some.inj h).symm⟩))
 split at h
 ·exact .inr (.inr (.inr (.inl ⟨‹_›, (Option.some.inj h).symm⟩)))
 split at h
 ·exact .inr (.inr (.inr (.inr (.inl ⟨‹_›, (Option.some.inj h).symm⟩))))
 split at h
 ·exact .inr (.inr (.inr (.inr (.inr (.inl ⟨‹_›, (Option.some.inj h).symm⟩)))))
 split at h
 ·exact .inr (.inr (.inr (.inr (.inr (.inr (.inl ⟨‹_›, (Option.some.inj h).symm⟩))))))
 split at h
 ·exact .inr (.inr (.inr (.inr (.inr (.inr (.inr (.inl ⟨‹_›, (Option.some.inj h).symm⟩)))))))
 split at h
 ·exact .inr (.inr (.inr (.inr (.inr (.inr (.inr (.inr (.inl ⟨‹_›, (Option.some.inj h).symm⟩))))))))
 split at h
 ·exact .inr (.inr (.inr (.inr (.inr (.inr (.inr (.inr (.inr (⟨‹_›, (Option.some.inj h).symm⟩)))))))))
 cases h
theorem laid_eq {K : Nat} {a0 a1 a2 a3 a4 a5 a6 : Int} {a7 : Bool} {l8 : List Int} {l9 : List S47} {os : List Nat} (ho : fOffs a0 = some os) (hc : uChk a0 a1 a2 a3 a4 a5 a6 a7 l8.length l9 = 0) (h0 : ∀ x ∈ l9, 0 ≤ x.f0) (hK : 60 ≤ K) : wigwagref05_laid.f K a0 a1 a2 a3 a4 a5 a6 a7 l8 l9 = some (numsOf a0 a7 os (gA a1 a2 a3 a4 a5 a6) l9 l8.length) := by
 obtain ⟨_, hsp, hno, hn, hfin⟩ := chk_parts ho hc
 obtain ⟨r0, r1⟩ := fOffs_range ho
 have hw0 : IntKind.u64.wrap a0 = a0 := w64 ⟨r0, by omega⟩
 have hw8 : IntKind.u64.wrap (l8.length : Int) = l8.length := w64 ⟨by omega, by omega⟩
 unfold wigwagref05_laid.f
 by_cases hk : a0 = 2 ∨ a0 = 3
 ·have hok := hsp hk
  unfold spOk at hok
  simp only [Bool.and_eq_true, decide_eq_true_eq] at hok
  obtain ⟨⟨g1, g2⟩, hok⟩ := hok
  have h7 : a7 = false := hfin.elim (fun h => absurd hk (by omega)) (fun h => h.1)
  subst h7
  have hi : l9.length - 1 < l9.length := by omega
  have e1 : wrap64 ((l9.length : Int) - 1) = ((l9.length - 1 : Nat) : Int) := by unfold wrap64; omega
  have e2 : wrap64 ((l9.length : Int) - 2) = ((l9.length - 1 : Nat) : Int) - 1 := by unfold wrap64; omega
  have hg : l9.getD (l9.length - 1) z47 = l9[l9.length - 1] := by simp [List.getD, List.getElem?_eq_getElem hi]
  have b := okS_mem hok _ (List.getElem_mem hi)
  have n := h0 _ (List.getElem_mem hi)
  have hwl : IntKind.u64.wrap (l9.length : Int) = l9.length := w64 ⟨by omega, by omega⟩
  have hlast : l9.drop (l9.length - 1) = [l9[l9.length - 1]] := by
   rw [List.drop_eq_getElem_cons hi, show l9.length - 1 + 1 = l9.length by omega, List.drop_length]
  have hd : nOver (l9.drop (l9.length - 1)) [] = [l9[l9.length - 1].f1 - 1, l9[l9.length - 1].f1 - l9[l9.length - 1].f0 - 1] := by rw [hlast]; rfl
  have hpre : ∀ j, j ≤ l9.length → ∃ q, nOver l9 [] = nOver (l9.drop j) [] ++ q := by
   intro j
   induction j with
   | zero => intro _; exact ⟨[], by simp⟩
   | succ j ihj =>
    intro hj
    obtain ⟨q, hq⟩ := ihj (by omega)
    rw [hq, List.drop_eq_getElem_cons (by omega : j < l9.length), nOver, List.append_assoc]
    exact ⟨_, rfl⟩
  obtain ⟨q, hq⟩ := hpre (l9.length - 1) (by omega)
  have key := fun acc ha => laid_loop (a0 := a0) (a1 := a1) (a2 := a2) (a3 := a3) (a4 := a4) (a5 := a5) (a6 := a6) (a7 := false) (l8 := l8) hok h0 (by omega) (l9.length - 1) K acc hi (by omega) ha
  rw [hd] at hq
  rw [hd, hq] at key
  have hL : List.drop [l9[l9.length - 1].f1 - 1, l9[l9.length - 1].f1 - l9[l9.length - 1].f0 - 1].length ([l9[l9.length - 1].f1 - 1, l9[l9.length - 1].f1 - l9[l9.length - 1].f0 - 1] ++ q) = q := List.drop_left
  rw [hL] at key
  unfold numsOf uKind
  rw [hq, e1, rdT, hg, hw0, hwl, e2, w64 (x := l9[l9.length - 1].f1 - 1) ⟨by omega, by omega⟩, w64 (x := l9[l9.length - 1].f1 - l9[l9.length - 1].f0) ⟨by omega, by omega⟩, w64 (x := l9[l9.length - 1].f1 - l9[l9.length - 1].f0 - 1) ⟨by omega, by omega⟩]
  rcases hk with rfl | rfl
  ·obtain rfl : os = [5] := (Option.some.inj ho).symm
   rw [if_pos rfl, if_pos (by omega), if_pos (by omega)]
   refine (key _ ?_).trans ?_
   ·simp only [List.length_cons, List.length_nil]; omega
   ·rw [if_neg (show ¬ l9.length = 0 by omega)]
    simp [gA_o]
  ·obtain rfl : os = [5, 6] := (Option.some.inj ho).symm
   rw [if_neg (by omega), if_pos rfl, if_pos (by omega), if_pos (by omega)]
   refine (key _ ?_).trans ?_
   ·simp only [List.length_cons, List.length_nil]; omega
   ·rw [if_neg (show ¬ l9.length = 0 by omega)]
    simp [gA_o]
 ·have hs := hno hk
  subst hs
  rw [if_neg (fun h => hk (.inl h)), if_neg (fun h => hk (.inr h)), hw0, hw8]
  unfold numsOf uKind
  rcases hfin with rfl | ⟨rfl, _⟩
  ·obtain rfl : os = [1, 2] := (Option.some.inj ho).symm
   cases a7 <;> simp [gA_o]
  ·rcases fOffs_cases ho with ⟨rfl | rfl | rfl, rfl⟩ | ⟨rfl, rfl⟩ | ⟨rfl, rfl⟩ | ⟨rfl, rfl⟩ | ⟨rfl, rfl⟩ | ⟨rfl, rfl⟩ | ⟨rfl, rfl⟩ | ⟨rfl | rfl | rfl, rfl⟩ | ⟨rfl | rfl, rfl⟩ | ⟨rfl, rfl⟩
   all_goals first
    | exact absurd (Or.inl rfl) hk
    | exact absurd (Or.inr rfl) hk
    | simp [gA_o]
end Go.Proofs.Ytphakdfholkbdaa
end
