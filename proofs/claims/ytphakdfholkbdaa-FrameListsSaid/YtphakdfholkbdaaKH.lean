/- FrQ -/
import Derived.Outline
import Derived.Handy
import Derived.Recover
import Derived.WalkSmall
import Derived.Laws.Externs
import Derived.Laws.CopyOwn
import Derived.Lib.AppendZerosOnto
import Derived.Lib.Overlaps
import Derived.Deep.RegionLaw
import Derived.Test.YtphakdfholkbdaaKA
import Derived.Test.YtphakdfholkbdaaKW
import Derived.Test.YtphakdfholkbdaaKB
import Derived.Test.YtphakdfholkbdaaKQ
import Derived.Test.YtphakdfholkbdaaKPFrax9
import Derived.Test.YtphakdfholkbdaaKD
namespace Go.Proofs.Ytphakdfholkbdaa
open Go.Proofs.Ytphakdfholkbdaa.PFra Go.RowKit Go.Proofs.YtphakdfholkbdaaW.PrintWords Go.Proofs.YtphakdfholkbdaaW.PrintLast Go.Proofs.YtphakdfholkbdaaW.PrintMore
set_option maxRecDepth 100000
set_option maxHeartbeats 4000000
set_option linter.unusedVariables false
set_option linter.unusedSimpArgs false
def Num1 (p : List Int) (v : Int) : Prop := (∀ q, uNum (p ++ q) = some (v, q)) ∧ (uPut v).length ≤ p.length ∧ 0 ≤ v ∧ v < 4611686018427387904 ∧ 0 < p.length
inductive RL : List Int → List Int → Prop
 | nil : RL [] []
 | cons {p q : List Int} {v : Int} {ns : List Int} : Num1 p v → RL q ns → RL (p ++ q) (v :: ns)
theorem RL.one {p : List Int} {v : Int} (h : Num1 p v) : RL p [v] := by simpa using RL.cons h RL.nil
theorem RL.len {p ns : List Int} (h : RL p ns) : (uNums ns).length ≤ p.length := by
 induction h with
 | nil => simp [uNums]
 | cons h _ ih =>
  have := h.2.1
  simp only [uNums, List.flatMap_cons, List.length_append] at ih ⊢
  omega
theorem RL.inv {p ns : List Int} {v : Int} (h : RL p (v :: ns)) : ∃ p1 p2, p = p1 ++ p2 ∧ Num1 p1 v ∧ RL p2 ns := by
 cases h with
 | cons h1 h2 => exact ⟨_, _, rfl, h1, h2⟩
theorem RL.inv_nil {p : List Int} (h : RL p []) : p = [] := by cases h; rfl
theorem RL.split {ns ms p : List Int} (h : RL p (ns ++ ms)) : ∃ p1 p2, p = p1 ++ p2 ∧ RL p1 ns ∧ RL p2 ms := by
 induction ns generalizing p with
 | nil => exact ⟨[], p, rfl, RL.nil, h⟩
 | cons v ns ih =>
  obtain ⟨a, b, rfl, h1, h2⟩ := RL.inv h
  obtain ⟨c, d, rfl, h3, h4⟩ := ih h2
  exact ⟨a ++ c, d, by rw [List.append_assoc], RL.cons h1 h3, h4⟩
theorem uNum_ok {l : List Int} (h : 0 < l.length) (hn : uGetN l ≤ l.length) : uNum l = some (uGetV l, l.drop (uGetN l)) := by
 have e : uGet l = (uGetV l, (uGetN l : Int), 0) := by
  unfold uGet
  rw [if_neg (by omega), if_neg (by omega)]
 unfold uNum
 rw [e]
 simp
theorem uPut_num {x : Int} (h0 : 0 ≤ x) (h1 : x < 4611686018427387904) : Num1 (uPut x) x := by
 refine ⟨fun q => ?_, Nat.le_refl _, h0, h1, ?_⟩
 ·have key : ∀ p : List Int, 0 < p.length → uGetN (p ++ q) = p.length → uGetV (p ++ q) = x → uNum (p ++ q) = some (x, q) := fun p hp hn hv => by
   rw [uNum_ok (by rw [List.length_append]; omega) (by rw [hn, List.length_append]; omega), hn, hv, List.drop_left]
  unfold uPut
  split
  ·refine key _ (by simp) ?_ ?_
   ·simp only [uGetN, List.cons_append, List.nil_append, rd, List.getD, List.length_cons, List.length_nil]
    simp
    omega
   ·simp only [uGetV, uGetN, List.cons_append, List.nil_append, rd, List.getD]
    simp
    have : (x / 64).toNat = 0 := by omega
    rw [this]
    simp
    omega
  ·split
   ·refine key _ (by simp) ?_ ?_
    ·simp only [uGetN, List.cons_append, List.nil_append, rd, List.getD, List.length_cons, List.length_nil]
     simp
     have : ((x / 256 + 64) / 64).toNat = 1 := by omega
     rw [this]
    ·simp only [uGetV, uGetN, List.cons_append, List.nil_append, rd, List.getD]
     simp
     have : ((x / 256 + 64) / 64).toNat = 1 := by omega
     rw [this]
     simp
     omega
   ·split
    ·refine key _ (by simp) ?_ ?_
     ·simp only [uGetN, List.cons_append, List.nil_append, rd, List.getD, List.length_cons, List.length_nil]
      simp
      have : ((x / 16777216 + 128) / 64).toNat = 2 := by omega
      rw [this]
     ·simp only [uGetV, uGetN, List.cons_append, List.nil_append, rd, List.getD]
      simp
      have : ((x / 16777216 + 128) / 64).toNat = 2 := by omega
      rw [this]
      simp
      omega
    ·refine key _ (by simp) ?_ ?_
     ·simp only [uGetN, List.cons_append, List.nil_append, rd, List.getD, List.length_cons, List.length_nil]
      simp
      have : ((x / 72057594037927936 + 192) / 64).toNat = 3 := by omega
      rw [this]
     ·simp only [uGetV, uGetN, List.cons_append, List.nil_append, rd, List.getD]
      simp
      have : ((x / 72057594037927936 + 192) / 64).toNat = 3 := by omega
      rw [this]
      simp
      omega
 ·unfold uPut
  repeat' split
  all_goals first | simp | omega
theorem uNums_RL {ns : List Int} (h : ∀ v ∈ ns, 0 ≤ v ∧ v < 4611686018427387904) : RL (uNums ns) ns := by
 induction ns with
 | nil => exact RL.nil
 | cons v ns ih =>
  have hv := h v (by simp)
  have : uNums (v :: ns) = uPut v ++ uNums ns := by simp [uNums]
  rw [this]
  exact RL.cons (uPut_num hv.1 hv.2) (ih fun w hw => h w (by simp [hw]))
def gapN (x : S47) : List S47 → Int
 | [] => x.f1 - 1
 | y :: _ => y.f0 - x.f1 - 1
def nOver : List S47 → List S47 → List Int
 | [], _ => []
 | x :: t, s => nOver t s ++ [gapN x (t ++ s), x.f1 - x.f0 - 1]
theorem nOver_snoc (x : S47) (s : List S47) : ∀ t, nOver (t ++ [x]) s = gapN x s :: (x.f1 - x.f0 - 1) :: nOver t (x :: s)
 | [] => rfl
 | y :: t => by
  rw [List.cons_append, nOver, nOver_snoc x s t, nOver]
  simp
theorem okS_mem : ∀ {l : List S47} {p : Option Int}, okS p l = true → ∀ x ∈ l, x.f0 < x.f1 ∧ x.f1 ≤ 4611686018427387904
 | [], _, _, x, hx => by cases hx
 | y :: l, p, h, x, hx => by
  rw [okS.eq_def] at h
  simp only [Bool.and_eq_true, decide_eq_true_eq] at h
  rcases List.mem_cons.1 hx with rfl | hx
  ·exact ⟨h.1.1.1, h.1.1.2⟩
  ·exact okS_mem h.2 x hx
theorem rounds_back : ∀ (k : Nat) (t : List S47) (y : S47) (s : List S47) (p r : List Int) (tp : Int), t.length = k → (∀ x ∈ t, 0 ≤ x.f0 ∧ x.f0 < x.f1) → RL p (nOver t (y :: s)) → rRounds k tp (y :: s) (p ++ r) = some (t ++ y :: s, r)
 | 0, t, y, s, p, r, tp, hk, ht, h => by
  obtain rfl := List.eq_nil_of_length_eq_zero hk
  obtain rfl := RL.inv_nil h
  rfl
 | k + 1, t, y, s, p, r, tp, hk, ht, h => by
  rcases List.eq_nil_or_concat t with rfl | ⟨t', x, e⟩
  ·cases hk
  ·rw [List.concat_eq_append] at e
   subst e
   have hx := ht x (by simp)
   rw [nOver_snoc] at h
   obtain ⟨p1, q, rfl, h1, h⟩ := RL.inv h
   obtain ⟨p2, q, rfl, h2, h⟩ := RL.inv h
   have hg := h1.2.2.1
   simp only [gapN] at h1 hg
   unfold rRounds
   rw [List.append_assoc, h1.1, Option.bind_some]
   simp only
   rw [if_pos (by omega), List.append_assoc, h2.1, Option.bind_some]
   simp only
   rw [if_pos (by omega)]
   have e : (⟨y.f0 - (y.f0 - x.f1 - 1 + 1) - (x.f1 - x.f0 - 1 + 1), y.f0 - (y.f0 - x.f1 - 1 + 1)⟩ : S47) = x := by
    cases x; simp only [S47.mk.injEq]; omega
   rw [e, rounds_back k t' x (y :: s) _ r _ (by simp at hk; omega) (fun z hz => ht z (by simp [hz])) h]
   simp
theorem sp_back {s : List S47} {p r : List Int} (h1 : 1 ≤ s.length) (h2 : s.length ≤ 32) (hs : ∀ x ∈ s, 0 ≤ x.f0 ∧ x.f0 < x.f1) (h : RL p ((s.length : Int) :: nOver s [])) : rSp (p ++ r) = some (s, r) := by
 obtain ⟨p1, q, rfl, g1, h⟩ := RL.inv h
 rcases List.eq_nil_or_concat s with rfl | ⟨t, x, e⟩
 ·simp at h1
 ·rw [List.concat_eq_append] at e
  subst e
  have hx := hs x (by simp)
  rw [nOver_snoc] at h
  obtain ⟨p2, q, rfl, g2, h⟩ := RL.inv h
  obtain ⟨p3, q, rfl, g3, h⟩ := RL.inv h
  simp only [gapN] at g2
  unfold rSp
  rw [List.append_assoc, g1.1, Option.bind_some]
  simp only
  rw [if_pos (by omega), List.append_assoc, g2.1, Option.bind_some]
  simp only
  rw [Int.toNat_natCast, List.length_append, List.length_singleton]
  unfold rRounds
  rw [List.append_assoc, g3.1, Option.bind_some]
  simp only
  rw [if_pos (by omega)]
  have e : (⟨x.f1 - 1 + 1 - (x.f1 - x.f0 - 1 + 1), x.f1 - 1 + 1⟩ : S47) = x := by
   cases x; simp only [S47.mk.injEq]; omega
  rw [e, rounds_back t.length t x [] q r _ rfl (fun z hz => hs z (by simp [hz])) h]
theorem nums_back : ∀ (os : List Nat) (f g : Nat → Int) (p r : List Int), os.Nodup → RL p (os.map g) → ∃ f', rNums os f (p ++ r) = some (f', r) ∧ (∀ j, j ∈ os → f' j = g j) ∧ (∀ j, j ∉ os → f' j = f j)
 | [], f, g, p, r, _, h => by
  obtain rfl := RL.inv_nil h
  exact ⟨f, rfl, (fun _ hj => absurd hj (by simp)), fun _ _ => rfl⟩
 | o :: os, f, g, p, r, hd, h => by
  obtain ⟨p1, q, rfl, h1, h⟩ := RL.inv h
  obtain ⟨ho, hd⟩ := List.nodup_cons.1 hd
  obtain ⟨f', e, hi, hn⟩ := nums_back os (upd f o (g o)) g q r hd h
  refine ⟨f', ?_, fun j hj => ?_, fun j hj => ?_⟩
  ·unfold rNums
   rw [List.append_assoc, h1.1, Option.bind_some]
   exact e
  ·rcases List.mem_cons.1 hj with rfl | hj
   ·rw [hn _ ho]; simp [upd]
   ·exact hi j hj
  ·rw [hn j (fun hm => hj (List.mem_cons_of_mem _ hm))]
   unfold upd
   rw [if_neg (fun e => hj (by rw [e]; exact List.mem_cons_self ..))]
theorem fOffs_nodup {a0 : Int} {os : List Nat} (h : fOffs a0 = some os) : os.Nodup := by
 unfold fOffs at h
 repeat (first | (obtain rfl := Option.some.inj h; decide) | (split at h) | (cases h; done))
theorem chk_parts {a0 a1 a2 a3 a4 a5 a6 : Int} {a7 : Bool} {n : Nat} {s : List S47} {os : List Nat} (ho : fOffs a0 = some os) (h : uChk a0 a1 a2 a3 a4 a5 a6 a7 n s = 0) :
  uBad os a1 a2 a3 a4 a5 a6 = false ∧ (a0 = 2 ∨ a0 = 3 → spOk s = true) ∧ (¬ (a0 = 2 ∨ a0 = 3) → s = []) ∧ n ≤ 1200 ∧ (a0 = 14 ∨ a7 = false ∧ n = 0) := by
 unfold uChk at h
 rw [ho] at h
 simp only at h
 split at h
 ·cases h
 ·rename_i hb
  refine ⟨by simpa using hb, ?_⟩
  split at h
  ·rename_i hk
   split at h
   ·rename_i hs
    have := tail_zero h
    exact ⟨fun _ => hs, fun hh => absurd hk hh, this.1, this.2⟩
   ·cases h
  ·rename_i hk
   split at h
   ·cases h
   ·have := tail_zero h
    exact ⟨fun hh => absurd hh hk, fun _ => List.eq_nil_of_length_eq_zero (by omega), this.1, this.2⟩
theorem bad_each {os : List Nat} {g : Nat → Int} (h : uBad os (g 1) (g 2) (g 3) (g 4) (g 5) (g 6) = false) (j : Nat) (h1 : 1 ≤ j) (h6 : j ≤ 6) : (j ∉ os → g j = 0) ∧ (j ∈ os → g j ≤ 4611686018427387903) := by
 unfold uBad at h
 simp only [Bool.or_eq_false_iff] at h
 obtain ⟨⟨⟨⟨⟨b1, b2⟩, b3⟩, b4⟩, b5⟩, b6⟩ := h
 have hb : badF os j (g j) = false := by
  have : j = 1 ∨ j = 2 ∨ j = 3 ∨ j = 4 ∨ j = 5 ∨ j = 6 := by omega
  rcases this with rfl | rfl | rfl | rfl | rfl | rfl <;> assumption
 unfold badF at hb
 refine ⟨fun hj => ?_, fun hj => ?_⟩
 ·rw [if_neg hj] at hb
  simpa using hb
 ·rw [if_pos hj] at hb
  have := of_decide_eq_false hb
  omega
def numsOf (K : Int) (fin : Bool) (os : List Nat) (g : Nat → Int) (s : List S47) (n : Nat) : List Int :=
 [uKind K fin] ++ (if s.length = 0 then [] else (s.length : Int) :: nOver s []) ++ os.map g ++ (if K = 14 then [(n : Int)] else [])
theorem frame_back {K : Int} {fin : Bool} {s : List S47} {g : Nat → Int} {p d r : List Int} {os : List Nat} (ho : fOffs K = some os) (hc : uChk K (g 1) (g 2) (g 3) (g 4) (g 5) (g 6) fin d.length s = 0) (hs : ∀ x ∈ s, 0 ≤ x.f0) (hp : RL p (numsOf K fin os g s d.length)) :
  ∃ f, rFr (p ++ (d ++ r)) = some (K, f, fin, d, s, r) ∧ ∀ j, 1 ≤ j → j ≤ 6 → f j = g j := by
 obtain ⟨hbad, hsp, hno, hd, hfin⟩ := chk_parts ho hc
 obtain ⟨hr0, hr1⟩ := fOffs_range ho
 have hnd := fOffs_nodup ho
 unfold numsOf at hp
 rw [List.append_assoc, List.append_assoc] at hp
 obtain ⟨p1, q, rfl, h1, hp⟩ := RL.inv hp
 replace hp : RL q ((if s.length = 0 then [] else (s.length : Int) :: nOver s []) ++ (os.map g ++ (if K = 14 then [(d.length : Int)] else []))) := hp
 rw [← List.append_assoc] at hp
 have main : ∃ f, rKind K fin (q ++ (d ++ r)) = some (K, f, fin, d, s, r) ∧ ∀ j, 1 ≤ j → j ≤ 6 → f j = g j := by
  obtain ⟨q12, q3, rfl, hq, h3⟩ := RL.split hp
  obtain ⟨q1, q2, rfl, h1', h2⟩ := RL.split hq
  obtain ⟨f, ef, hi, hn⟩ := nums_back os (fun _ => 0) g q2 (q3 ++ (d ++ r)) hnd h2
  have hf : ∀ j, 1 ≤ j → j ≤ 6 → f j = g j := fun j a b => by
   by_cases hj : j ∈ os
   ·exact hi j hj
   ·rw [hn j hj, (bad_each hbad j a b).1 hj]
  refine ⟨f, ?_, hf⟩
  have hchk : rChk K fin s f d r = some (K, f, fin, d, s, r) := by
   unfold rChk
   rw [hf 1 (by omega) (by omega), hf 2 (by omega) (by omega), hf 3 (by omega) (by omega), hf 4 (by omega) (by omega), hf 5 (by omega) (by omega), hf 6 (by omega) (by omega), if_pos hc]
  have hend : rEnd K fin s f (q3 ++ (d ++ r)) = some (K, f, fin, d, s, r) := by
   unfold rEnd
   by_cases hK : K = 14
   ·rw [if_pos hK] at h3 ⊢
    obtain ⟨p4, p5, rfl, h4, h5⟩ := RL.inv h3
    obtain rfl := RL.inv_nil h5
    rw [List.append_nil, h4.1, Option.bind_some]
    simp only
    rw [if_pos (by rw [List.length_append]; omega), Int.toNat_natCast, List.take_left, List.drop_left]
    exact hchk
   ·rw [if_neg hK] at h3 ⊢
    obtain rfl := RL.inv_nil h3
    have hd0 : d = [] := by
     rcases hfin with h | ⟨_, h⟩
     ·exact absurd h hK
     ·exact List.eq_nil_of_length_eq_zero h
    subst hd0
    exact hchk
  unfold rKind
  rw [ho]
  simp only
  by_cases hk : K = 2 ∨ K = 3
  ·rw [if_pos hk]
   have hok := hsp hk
   unfold spOk at hok
   simp only [Bool.and_eq_true, decide_eq_true_eq] at hok
   rw [if_neg (by omega)] at h1'
   have e := sp_back (r := q2 ++ (q3 ++ (d ++ r))) hok.1.1 hok.1.2 (fun x hx => ⟨hs x hx, (okS_mem hok.2 x hx).1⟩) h1'
   rw [List.append_assoc, List.append_assoc, e, Option.bind_some]
   simp only
   rw [ef, Option.bind_some]
   exact hend
  ·rw [if_neg hk]
   have hs0 := hno hk
   subst hs0
   rw [if_pos (by simp)] at h1'
   obtain rfl := RL.inv_nil h1'
   rw [List.nil_append, List.append_assoc, ef, Option.bind_some]
   exact hend
 obtain ⟨f, hf, hj⟩ := main
 refine ⟨f, ?_, hj⟩
 unfold rFr
 rw [List.append_assoc, h1.1, Option.bind_some]
 simp only
 unfold uKind
 cases fin with
 | true =>
  have hK : K = 14 := by
   rcases hfin with h | ⟨h, _⟩
   ·exact h
   ·cases h
  subst hK
  rw [if_pos rfl, if_pos (by decide), if_pos (by decide)]
  exact hf
 | false =>
  have hne : K ≠ 15 := fun e => by subst e; cases ho
  have e0 : (if false = true then K + 1 else K) = K := if_neg (by decide)
  rw [e0, if_pos hr1, if_neg hne]
  exact hf
def gA (a1 a2 a3 a4 a5 a6 : Int) : Nat → Int := fun j => selA j a1 a2 a3 a4 a5 a6
theorem gA_each (a1 a2 a3 a4 a5 a6 : Int) : gA a1 a2 a3 a4 a5 a6 1 = a1 ∧ gA a1 a2 a3 a4 a5 a6 2 = a2 ∧ gA a1 a2 a3 a4 a5 a6 3 = a3 ∧ gA a1 a2 a3 a4 a5 a6 4 = a4 ∧ gA a1 a2 a3 a4 a5 a6 5 = a5 ∧ gA a1 a2 a3 a4 a5 a6 6 = a6 := ⟨rfl, rfl, rfl, rfl, rfl, rfl⟩
theorem okS_next : ∀ {l : List S47} {p : Option Int} {i : Nat}, okS p l = true → (h : i + 1 < l.length) → (l[i]'(by omega)).f1 < (l[i + 1]).f0
 | [], _, _, _, h => by simp at h
 | [x], _, i, _, h => by simp at h
 | x :: y :: l, p, 0, h, _ => by
  rw [okS.eq_def] at h
  simp only [Bool.and_eq_true] at h
  have h2 := h.2
  rw [okS.eq_def] at h2
  simp only [Bool.and_eq_true, decide_eq_true_eq] at h2
  exact h2.1.2
 | x :: y :: l, p, i + 1, h, hi => by
  rw [okS.eq_def] at h
  simp only [Bool.and_eq_true] at h
  exact okS_next (l := y :: l) (i := i) h.2 (by simpa using hi)
theorem spNums_eq {l : List S47} (hok : okS none l = true) (h0 : ∀ x ∈ l, 0 ≤ x.f0) : ∀ k, k ≤ l.length → spNums l k = nOver (l.drop (l.length - k)) [] := by
 intro k
 induction k with
 | zero => intro _; rw [Nat.sub_zero, List.drop_length]; rfl
 | succ k ih =>
  intro hk
  have hi : l.length - (k + 1) < l.length := by omega
  have hg : l.getD (l.length - 1 - k) z47 = l[l.length - (k + 1)] := by
   rw [show l.length - 1 - k = l.length - (k + 1) by omega]
   simp [List.getD, List.getElem?_eq_getElem hi]
  rw [spNums_succ, ih (by omega), List.drop_eq_getElem_cons hi, nOver, show l.length - (k + 1) + 1 = l.length - k by omega, List.append_nil]
  have hm := List.getElem_mem hi
  have hb := okS_mem hok _ hm
  have hz := h0 _ hm
  congr 1
  have e2 : lenAt l (l.length - 1 - k) = l[l.length - (k + 1)].f1 - l[l.length - (k + 1)].f0 - 1 := by
   unfold lenAt
   rw [hg, w64 (x := l[l.length - (k + 1)].f1 - l[l.length - (k + 1)].f0) ⟨by omega, by omega⟩, w64 ⟨by omega, by omega⟩]
  have e1 : gapAt l (l.length - 1 - k) = gapN l[l.length - (k + 1)] (l.drop (l.length - k)) := by
   unfold gapAt
   by_cases hlast : k = 0
   ·subst hlast
    rw [if_pos (by omega), hg, Nat.sub_zero, List.drop_length, w64 ⟨by omega, by omega⟩]
    rfl
   ·have hi2 : l.length - k < l.length := by omega
    have hg2 : l.getD (l.length - 1 - k + 1) z47 = l[l.length - k] := by
     rw [show l.length - 1 - k + 1 = l.length - k by omega]
     simp [List.getD, List.getElem?_eq_getElem hi2]
    have hn : l[l.length - (k + 1)].f1 < l[l.length - k].f0 := by
     have := okS_next (i := l.length - (k + 1)) hok (by omega)
     simpa only [show l.length - (k + 1) + 1 = l.length - k by omega] using this
    have hb2 := okS_mem hok _ (List.getElem_mem hi2)
    rw [if_neg (by omega), hg, hg2, List.drop_eq_getElem_cons hi2, w64 (x := l[l.length - k].f0 - l[l.length - (k + 1)].f1) ⟨by omega, by omega⟩, w64 ⟨by omega, by omega⟩]
    rfl
  rw [e1, e2]
theorem enc_eq {a0 a1 a2 a3 a4 a5 a6 : Int} {a7 : Bool} {l8 : List Int} {l9 : List S47} {os : List Nat} (ho : fOffs a0 = some os) (hc : uChk a0 a1 a2 a3 a4 a5 a6 a7 l8.length l9 = 0) (h0 : ∀ x ∈ l9, 0 ≤ x.f0) :
  uEnc a0 a1 a2 a3 a4 a5 a6 a7 l8 l9 = uNums (numsOf a0 a7 os (gA a1 a2 a3 a4 a5 a6) l9 l8.length) ++ l8 := by
 obtain ⟨_, hsp, hno, _, hfin⟩ := chk_parts ho hc
 have hs : (if l9.length = 0 then [] else uNums [(l9.length : Int)] ++ uNums (spNums l9 l9.length)) = uNums (if l9.length = 0 then [] else (l9.length : Int) :: nOver l9 []) := by
  by_cases hl : l9.length = 0
  ·rw [if_pos hl, if_pos hl]; rfl
  ·rw [if_neg hl, if_neg hl]
   have hk : a0 = 2 ∨ a0 = 3 := Decidable.byContradiction fun h => hl (by rw [hno h]; rfl)
   have hok := hsp hk
   unfold spOk at hok
   simp only [Bool.and_eq_true] at hok
   rw [spNums_eq hok.2 h0 l9.length (Nat.le_refl _), Nat.sub_self, List.drop_zero, ← uNums_app]
   rfl
 have hd : (if a0 = 14 then uNums [(l8.length : Int)] ++ l8 else []) = uNums (if a0 = 14 then [(l8.length : Int)] else []) ++ l8 := by
  by_cases h : a0 = 14
  ·rw [if_pos h, if_pos h]
  ·rw [if_neg h, if_neg h]
   rcases hfin with hh | ⟨_, hh⟩
   ·exact absurd hh h
   ·rw [List.eq_nil_of_length_eq_zero hh]; rfl
 unfold uEnc numsOf
 rw [hs, hd, ho]
 simp only [uNums_app, List.append_assoc, Option.getD_some]
 rfl
theorem nums_bound {a0 a1 a2 a3 a4 a5 a6 : Int} {a7 : Bool} {n : Nat} {l9 : List S47} {os : List Nat} (ho : fOffs a0 = some os) (hc : uChk a0 a1 a2 a3 a4 a5 a6 a7 n l9 = 0) (h0 : ∀ x ∈ l9, 0 ≤ x.f0) (hw : ∀ j, 0 ≤ gA a1 a2 a3 a4 a5 a6 j) : ∀ v ∈ numsOf a0 a7 os (gA a1 a2 a3 a4 a5 a6) l9 n, 0 ≤ v ∧ v < 4611686018427387904 := by
 obtain ⟨hbad, hsp, hno, hn, hfin⟩ := chk_parts ho hc
 obtain ⟨hr0, hr1⟩ := fOffs_range ho
 obtain ⟨hm, _⟩ := fOffs_mem ho
 intro v hv
 unfold numsOf at hv
 simp only [List.mem_append, List.mem_singleton] at hv
 rcases hv with ((rfl | hv) | hv) | hv
 ·unfold uKind; split <;> omega
 ·by_cases hl : l9.length = 0
  ·rw [if_pos hl] at hv; cases hv
  ·rw [if_neg hl] at hv
   have hk : a0 = 2 ∨ a0 = 3 := Decidable.byContradiction fun h => hl (by rw [hno h]; rfl)
   have hok := hsp hk
   unfold spOk at hok
   simp only [Bool.and_eq_true, decide_eq_true_eq] at hok
   rcases List.mem_cons.1 hv with rfl | hv
   ·omega
   ·have key : ∀ (l : List S47) (p : Option Int), okS p l = true → (∀ x ∈ l, 0 ≤ x.f0) → ∀ v ∈ nOver l [], 0 ≤ v ∧ v < 4611686018427387904 := by
     intro l
     induction l with
     | nil => intro p _ _ v hv; cases hv
     | cons x t ih =>
      intro p hp hx v hv
      have hxx := okS_mem hp x (by simp)
      have hx0 := hx x (by simp)
      have ht : okS (some x.f1) t = true := by
       rw [okS.eq_def] at hp
       simp only [Bool.and_eq_true] at hp
       exact hp.2
      rw [nOver, List.append_nil] at hv
      simp only [List.mem_append, List.mem_cons, List.not_mem_nil, or_false] at hv
      rcases hv with hv | rfl | rfl
      ·exact ih _ ht (fun y hy => hx y (by simp [hy])) v hv
      ·cases t with
       | nil => simp only [gapN]; omega
       | cons y t =>
        have hy := okS_mem ht y (by simp)
        have hlt : x.f1 < y.f0 := by
         rw [okS.eq_def] at ht
         simp only [Bool.and_eq_true, decide_eq_true_eq] at ht
         exact ht.1.2
        simp only [gapN]; omega
      ·omega
    exact key l9 none hok.2 h0 v hv
 ·obtain ⟨o, ho', rfl⟩ := List.mem_map.1 hv
  obtain ⟨h1, h6⟩ := hm o ho'
  have := (bad_each (g := gA a1 a2 a3 a4 a5 a6) hbad o h1 h6).2 ho'
  exact ⟨hw o, by omega⟩
 ·by_cases h : a0 = 14
  ·rw [if_pos h, List.mem_singleton] at hv
   subst hv
   omega
  ·rw [if_neg h] at hv; cases hv
theorem gA_nn {a1 a2 a3 a4 a5 a6 : Int} (W1 : W64 a1) (W2 : W64 a2) (W3 : W64 a3) (W4 : W64 a4) (W5 : W64 a5) (W6 : W64 a6) (j : Nat) : 0 ≤ gA a1 a2 a3 a4 a5 a6 j := by
 have e : W64 (gA a1 a2 a3 a4 a5 a6 j) := selA_w' j W1 W2 W3 W4 W5 W6
 exact e.1
theorem parse_back {a0 a1 a2 a3 a4 a5 a6 : Int} {a7 : Bool} {l8 : List Int} {l9 : List S47} {os : List Nat} (r : List Int) (ho : fOffs a0 = some os) (hc : uChk a0 a1 a2 a3 a4 a5 a6 a7 l8.length l9 = 0) (h0 : ∀ x ∈ l9, 0 ≤ x.f0) (hw : ∀ j, 0 ≤ gA a1 a2 a3 a4 a5 a6 j) :
  uParse (uEnc a0 a1 a2 a3 a4 a5 a6 a7 l8 l9 ++ r) = (a0, a1, a2, a3, a4, a5, a6, a7, l8, l9, ((uEnc a0 a1 a2 a3 a4 a5 a6 a7 l8 l9).length : Int), 0) := by
 obtain ⟨f, hf, hj⟩ := frame_back (g := gA a1 a2 a3 a4 a5 a6) (fin := a7) (d := l8) (s := l9) (r := r) ho hc h0 (uNums_RL (nums_bound ho hc h0 hw))
 unfold uParse
 rw [enc_eq ho hc h0, List.append_assoc, hf]
 simp only [List.length_append]
 rw [hj 1 (by omega) (by omega), hj 2 (by omega) (by omega), hj 3 (by omega) (by omega), hj 4 (by omega) (by omega), hj 5 (by omega) (by omega), hj 6 (by omega) (by omega)]
 simp only [gA_each, Prod.mk.injEq, true_and]
 exact ⟨by omega, trivial⟩
theorem chk_fOffs {a0 a1 a2 a3 a4 a5 a6 : Int} {a7 : Bool} {n : Nat} {l9 : List S47} (hc : uChk a0 a1 a2 a3 a4 a5 a6 a7 n l9 = 0) : ∃ os, fOffs a0 = some os := by
 cases h : fOffs a0 with
 | none => unfold uChk at hc; rw [h] at hc; cases hc
 | some os => exact ⟨os, rfl⟩
theorem bytes_app {a b : List Int} (ha : bytesOk a = true) (hb : bytesOk b = true) : bytesOk (a ++ b) = true := by
 unfold bytesOk at *
 rw [List.all_append, ha, hb]
 rfl
theorem bytes_put {x : Int} (h0 : 0 ≤ x) : bytesOk (uPut x) = true := by
 unfold uPut
 repeat' split
 all_goals simp only [bytesOk, List.all_cons, List.all_nil, Bool.and_true, Bool.and_eq_true, decide_eq_true_eq]
 all_goals omega
theorem bytes_nums {ns : List Int} (h : ∀ v ∈ ns, 0 ≤ v) : bytesOk (uNums ns) = true := by
 induction ns with
 | nil => rfl
 | cons v ns ih =>
  have e : uNums (v :: ns) = uPut v ++ uNums ns := by simp [uNums]
  rw [e]
  exact bytes_app (bytes_put (h v (by simp))) (ih fun w hw => h w (by simp [hw]))
theorem enc_bytes {a0 a1 a2 a3 a4 a5 a6 : Int} {a7 : Bool} {l8 : List Int} {l9 : List S47} {os : List Nat} (ho : fOffs a0 = some os) (hc : uChk a0 a1 a2 a3 a4 a5 a6 a7 l8.length l9 = 0) (h0 : ∀ x ∈ l9, 0 ≤ x.f0) (hw : ∀ j, 0 ≤ gA a1 a2 a3 a4 a5 a6 j) (h8 : bytesOk l8 = true) : bytesOk (uEnc a0 a1 a2 a3 a4 a5 a6 a7 l8 l9) = true := by
 rw [enc_eq ho hc h0]
 exact bytes_app (bytes_nums fun v hv => (nums_bound ho hc h0 hw v hv).1) h8
theorem awake_ok {k : Nat} (hk : 60 ≤ k) : wigwaglaw05_awake.f k = some true := at_rounds wigwaglaw05_awake.mono hk (by decide +kernel)
theorem u8_wf {x : Int} (h : (Lit.int .u8 x).wf = true) : 0 ≤ x ∧ x < 256 := by
 have e1 : IntKind.u8.min = 0 := rfl
 have e2 : IntKind.u8.max = 255 := rfl
 simp [Lit.wf, e1, e2] at h
 omega
theorem bytes_wf {l : List Int} (h : ∀ x ∈ l, (Lit.int .u8 x).wf = true) : bytesOk l = true := List.all_eq_true.2 fun x hx => by
 have := u8_wf (h x hx)
 simpa using this
theorem nOver_len : ∀ (t s : List S47), (nOver t s).length = 2 * t.length
 | [], _ => rfl
 | x :: t, s => by simp [nOver, nOver_len t s]; omega
theorem enc_len {a0 a1 a2 a3 a4 a5 a6 : Int} {a7 : Bool} {l8 : List Int} {l9 : List S47} {os : List Nat} (ho : fOffs a0 = some os) (hc : uChk a0 a1 a2 a3 a4 a5 a6 a7 l8.length l9 = 0) (h0 : ∀ x ∈ l9, 0 ≤ x.f0) : (uEnc a0 a1 a2 a3 a4 a5 a6 a7 l8 l9).length ≤ 3000 := by
 obtain ⟨_, hsp, hno, hn, _⟩ := chk_parts ho hc
 obtain ⟨_, hol⟩ := fOffs_mem ho
 rw [enc_eq ho hc h0, List.length_append]
 have := uNums_len (numsOf a0 a7 os (gA a1 a2 a3 a4 a5 a6) l9 l8.length)
 have hl9 : l9.length ≤ 32 := by
  by_cases hk : a0 = 2 ∨ a0 = 3
  ·have hok := hsp hk
   unfold spOk at hok
   simp only [Bool.and_eq_true, decide_eq_true_eq] at hok
   exact hok.1.2
  ·rw [hno hk]; simp
 have h2 : (numsOf a0 a7 os (gA a1 a2 a3 a4 a5 a6) l9 l8.length).length ≤ 70 := by
  unfold numsOf
  simp only [List.length_append, List.length_map, List.length_singleton]
  have h3 : (if l9.length = 0 then ([] : List Int) else (l9.length : Int) :: nOver l9 []).length ≤ 65 := by
   split
   ·simp
   ·simp only [List.length_cons, nOver_len]; omega
  have h4 : (if a0 = 14 then [(l8.length : Int)] else []).length ≤ 1 := by split <;> simp
  omega
 omega
theorem RL.bound {p ns : List Int} (h : RL p ns) : ∀ v ∈ ns, 0 ≤ v ∧ v < 4611686018427387904 := by
 induction h with
 | nil => intro v hv; cases hv
 | cons h _ ih =>
  intro v hv
  rcases List.mem_cons.1 hv with rfl | hv
  ·exact ⟨h.2.2.1, h.2.2.2.1⟩
  ·exact ih v hv
theorem encode_ok {k : Nat} {a0 a1 a2 a3 a4 a5 a6 : Int} {a7 : Bool} {l8 : List Int} {l9 : List S47} (W1 : W64 a1) (W2 : W64 a2) (W3 : W64 a3) (W4 : W64 a4) (W5 : W64 a5) (W6 : W64 a6) (h8 : l8.length < 1000000) (h9 : l9.length < 1000000) (hk : l9.length < k) (hc : uChk a0 a1 a2 a3 a4 a5 a6 a7 l8.length l9 = 0) :
  frame_Encode.f k a0 a1 a2 a3 a4 a5 a6 a7 l8 l9 = some (uEnc a0 a1 a2 a3 a4 a5 a6 a7 l8 l9, 0) := by
 obtain ⟨os, ho⟩ := chk_fOffs hc
 obtain ⟨_, hsp, hno, _⟩ := chk_parts ho hc
 have hl9 : l9.length ≤ 32 := by
  by_cases hk : a0 = 2 ∨ a0 = 3
  ·have hok := hsp hk
   unfold spOk at hok
   simp only [Bool.and_eq_true, decide_eq_true_eq] at hok
   exact hok.1.2
  ·rw [hno hk]; simp
 unfold frame_Encode.f
 rw [chk_eq W1 W2 W3 W4 W5 W6 h8 h9 hk, hc, Option.bind_some, if_pos rfl, if_pos hl9]
theorem chk_01 (a0 a1 a2 a3 a4 a5 a6 : Int) (a7 : Bool) (n : Nat) (l9 : List S47) : uChk a0 a1 a2 a3 a4 a5 a6 a7 n l9 = 0 ∨ uChk a0 a1 a2 a3 a4 a5 a6 a7 n l9 = 50 := by
 unfold uChk uTail
 repeat' split
 all_goals first | exact .inl rfl | exact .inr rfl
theorem encode_no {k : Nat} {a0 a1 a2 a3 a4 a5 a6 : Int} {a7 : Bool} {l8 : List Int} {l9 : List S47} (W1 : W64 a1) (W2 : W64 a2) (W3 : W64 a3) (W4 : W64 a4) (W5 : W64 a5) (W6 : W64 a6) (h8 : l8.length < 1000000) (h9 : l9.length < 1000000) (hk : l9.length < k) (hc : uChk a0 a1 a2 a3 a4 a5 a6 a7 l8.length l9 ≠ 0) :
  frame_Encode.f k a0 a1 a2 a3 a4 a5 a6 a7 l8 l9 = some ([], 50) := by
 unfold frame_Encode.f
 rw [chk_eq W1 W2 W3 W4 W5 W6 h8 h9 hk, Option.bind_some, if_neg hc]
 rcases chk_01 a0 a1 a2 a3 a4 a5 a6 a7 l8.length l9 with h | h
 ·exact absurd h hc
 ·rw [h]
theorem parse_f {l : List Int} (hb : bytesOk l = true) (hl : l.length < 1000000) : frame_Parse.f l = some (uParse l) := by
 unfold frame_Parse.f
 rw [if_pos ⟨hb, hl⟩]
end Go.Proofs.Ytphakdfholkbdaa
