/- Several texts of this claim in one: FrQ FrR -/
import Derived.Outline
import Derived.Handy
import Derived.Recover
import Derived.WalkSmall
import Derived.Laws.Externs
import Derived.Laws.CopyOwn
import Derived.Lib.AppendZerosOnto
import Derived.Lib.Overlaps
import Derived.Deep.RegionLaw
import Derived.Test.YtphakdfholkbdaaKA
import Derived.Test.YtphakdfholkbdaaKW
import Derived.Test.YtphakdfholkbdaaKB
import Derived.Test.YtphakdfholkbdaaKQ
import Derived.Test.YtphakdfholkbdaaKPFrax9
import Derived.Test.YtphakdfholkbdaaKD
import Derived.Test.YtphakdfholkbdaaKF
section
namespace Go.Proofs.Ytphakdfholkbdaa
open Go.Proofs.Ytphakdfholkbdaa.PFra Go.RowKit Go.Proofs.YtphakdfholkbdaaW.PrintWords Go.Proofs.YtphakdfholkbdaaW.PrintLast Go.Proofs.YtphakdfholkbdaaW.PrintMore
set_option maxRecDepth 100000
set_option maxHeartbeats 4000000
set_option linter.unusedVariables false
set_option linter.unusedSimpArgs false
def Num1 (p : List Int) (v : Int) : Prop := (∀ q, uNum (p ++ q) = some (v, q)) ∧ (uPut v).length ≤ p.length ∧ 0 ≤ v ∧ v < 4611686018427387904 ∧ 0 < p.length
inductive RL : List Int → List Int → Prop
 | nil : RL [] []
 | cons {p q : List Int} {v : Int} {ns : List Int} : Num1 p v → RL q ns → RL (p ++ q) (v :: ns)
theorem RL.one {p : List Int} {v : Int} (h : Num1 p v) : RL p [v] := by simpa using RL.cons h RL.nil
theorem RL.app {p q ns ms : List Int} (h : RL p ns) (k : RL q ms) : RL (p ++ q) (ns ++ ms) := by
 induction h with
 | nil => exact k
 | cons h _ ih => rw [List.append_assoc]; exact RL.cons h ih
theorem rd_app {p q : List Int} (h : 0 < p.length) : rd (p ++ q) 0 = rd p 0 := by
 cases p with
 | nil => simp at h
 | cons x t => rfl
theorem uNum_ok {l : List Int} (h : 0 < l.length) (hn : uGetN l ≤ l.length) : uNum l = some (uGetV l, l.drop (uGetN l)) := by
 have e : uGet l = (uGetV l, (uGetN l : Int), 0) := by
  unfold uGet
  rw [if_neg (by omega), if_neg (by omega)]
 unfold uNum
 rw [e]
 simp
theorem uNum_at {l l' : List Int} {v : Int} (hb : bytesOk l = true) (h : uNum l = some (v, l')) : ∃ p, l = p ++ l' ∧ Num1 p v := by
 obtain ⟨hv, hb', hlt, e1, e2, hle, hpos⟩ := uNum_some hb h
 have hp : (l.take (uGetN l)).length = uGetN l := by rw [List.length_take]; omega
 have hr : ∀ q, rd (l.take (uGetN l) ++ q) 0 = rd l 0 := fun q => by
  conv => { rhs; rw [← List.take_append_drop (uGetN l) l] }
  rw [rd_app (by omega), rd_app (by omega)]
 have hN : ∀ q, uGetN (l.take (uGetN l) ++ q) = uGetN l := fun q => by
  have : ∀ a b : List Int, rd a 0 = rd b 0 → uGetN a = uGetN b := fun a b h => by unfold uGetN; rw [h]
  exact this _ _ (hr q)
 have hV : ∀ q, uGetV (l.take (uGetN l) ++ q) = uGetV l := fun q => by
  have e : (l.take (uGetN l) ++ q).take (uGetN (l.take (uGetN l) ++ q)) = l.take (uGetN l) := by
   rw [hN, List.take_append_of_le_length (by omega), List.take_of_length_le (by omega)]
  have : ∀ a b : List Int, rd a 0 = rd b 0 → a.take (uGetN a) = b.take (uGetN b) → uGetV a = uGetV b := fun a b h1 h2 => by unfold uGetV; rw [h1, h2]
  exact this _ _ (hr q) e
 refine ⟨l.take (uGetN l), by rw [e1, List.take_append_drop], fun q => ?_, ?_, hv.1, hv.2, by omega⟩
 ·rw [uNum_ok (by rw [List.length_append]; omega) (by rw [hN, List.length_append]; omega), hN, hV, ← e2]
  congr 2
  rw [List.drop_append_of_le_length (by omega), List.drop_of_length_le (by omega), List.nil_append]
 ·rw [hp]
  have hc := uGetN_cases hb
  have hf := foldl_lt ((l.take (uGetN l)).drop 1) (rd l 0 % 64) 64 (fun x hx => bytes_mem hb (List.mem_of_mem_take (List.mem_of_mem_drop hx))) (by omega) (by omega)
  have hl : ((l.take (uGetN l)).drop 1).length = uGetN l - 1 := by rw [List.length_drop, hp]
  rw [hl] at hf
  have hf2 : v < 64 * 256 ^ (uGetN l - 1) := e2 ▸ hf.2
  have g1 : (64 : Int) * 256 ^ (1 - 1) = 64 := by decide
  have g2 : (64 : Int) * 256 ^ (2 - 1) = 16384 := by decide
  have g4 : (64 : Int) * 256 ^ (4 - 1) = 1073741824 := by decide
  have g8 : (64 : Int) * 256 ^ (8 - 1) = 4611686018427387904 := by decide
  have hl8 := uPut_len v
  unfold uPut at hl8 ⊢
  rcases hc with e | e | e | e <;> rw [e] at hf2 ⊢
  ·rw [g1] at hf2; rw [if_pos hf2]; simp
  ·rw [g2] at hf2; rw [if_pos hf2]; split <;> simp
  ·rw [g4] at hf2; rw [if_pos hf2]; split
   ·simp
   ·split <;> simp
  ·exact hl8
def gapN (x : S47) : List S47 → Int
 | [] => x.f1 - 1
 | y :: _ => y.f0 - x.f1 - 1
def nOver : List S47 → List S47 → List Int
 | [], _ => []
 | x :: t, s => nOver t s ++ [gapN x (t ++ s), x.f1 - x.f0 - 1]
theorem nOver_snoc (x : S47) (s : List S47) : ∀ t, nOver (t ++ [x]) s = gapN x s :: (x.f1 - x.f0 - 1) :: nOver t (x :: s)
 | [] => rfl
 | y :: t => by
  rw [List.cons_append, nOver, nOver_snoc x s t, nOver]
  simp
theorem rounds_reads : ∀ (k : Nat) (tp : Int) (y : S47) (s : List S47) (l : List Int) {s' : List S47} {r : List Int}, bytesOk l = true → rRounds k tp (y :: s) l = some (s', r) → ∃ t p, s' = t ++ y :: s ∧ l = p ++ r ∧ RL p (nOver t (y :: s))
 | 0, tp, y, s, l, s', r, hb, h => by
  simp only [rRounds, Option.some.injEq, Prod.mk.injEq] at h
  obtain ⟨rfl, rfl⟩ := h
  exact ⟨[], [], rfl, rfl, RL.nil⟩
 | k + 1, tp, y, s, l, s', r, hb, h => by
  unfold rRounds at h
  cases hN : uNum l with
  | none => rw [hN] at h; cases h
  | some q =>
   rw [hN, Option.bind_some] at h
   obtain ⟨g, l1⟩ := q
   obtain ⟨p1, rfl, hp1⟩ := uNum_at hb hN
   obtain ⟨_, _, hb1⟩ := uNum_suffix hb hN
   split at h
   ·cases hN1 : uNum l1 with
    | none => rw [hN1] at h; cases h
    | some q =>
     rw [hN1, Option.bind_some] at h
     obtain ⟨z, l2⟩ := q
     obtain ⟨p2, rfl, hp2⟩ := uNum_at hb1 hN1
     obtain ⟨_, _, hb2⟩ := uNum_suffix hb1 hN1
     split at h
     ·obtain ⟨t, p3, e1, e2, h3⟩ := rounds_reads k _ _ _ l2 hb2 h
      refine ⟨t ++ [⟨y.f0 - (g + 1) - (z + 1), y.f0 - (g + 1)⟩], p1 ++ (p2 ++ p3), by rw [e1]; simp, by rw [e2]; simp, ?_⟩
      rw [nOver_snoc]
      have eg : gapN (⟨y.f0 - (g + 1) - (z + 1), y.f0 - (g + 1)⟩ : S47) (y :: s) = g := by simp only [gapN]; omega
      have ez : (⟨y.f0 - (g + 1) - (z + 1), y.f0 - (g + 1)⟩ : S47).f1 - (⟨y.f0 - (g + 1) - (z + 1), y.f0 - (g + 1)⟩ : S47).f0 - 1 = z := by simp only; omega
      rw [eg, ez]
      exact RL.cons hp1 (RL.cons hp2 h3)
     ·cases h
   ·cases h
theorem sp_reads {l r : List Int} {s : List S47} (hb : bytesOk l = true) (h : rSp l = some (s, r)) : ∃ p, l = p ++ r ∧ RL p ((s.length : Int) :: nOver s []) ∧ 0 < s.length := by
 unfold rSp at h
 cases hN : uNum l with
 | none => rw [hN] at h; cases h
 | some q =>
  rw [hN, Option.bind_some] at h
  obtain ⟨n, l1⟩ := q
  obtain ⟨p1, rfl, hp1⟩ := uNum_at hb hN
  obtain ⟨_, _, hb1⟩ := uNum_suffix hb hN
  split at h
  ·rename_i hg
   simp only at hg
   cases hN1 : uNum l1 with
   | none => rw [hN1] at h; cases h
   | some q =>
    rw [hN1, Option.bind_some] at h
    obtain ⟨t, l2⟩ := q
    obtain ⟨p2, rfl, hp2⟩ := uNum_at hb1 hN1
    obtain ⟨_, _, hb2⟩ := uNum_suffix hb1 hN1
    simp only at h
    obtain ⟨hlen, _, _⟩ := rRounds_len _ _ _ _ hb2 h
    obtain ⟨k, hk⟩ : ∃ k, n.toNat = k + 1 := ⟨n.toNat - 1, by omega⟩
    rw [hk] at h
    unfold rRounds at h
    cases hN2 : uNum l2 with
    | none => rw [hN2] at h; cases h
    | some q =>
     rw [hN2, Option.bind_some] at h
     obtain ⟨z, l3⟩ := q
     obtain ⟨p3, rfl, hp3⟩ := uNum_at hb2 hN2
     obtain ⟨_, _, hb3⟩ := uNum_suffix hb2 hN2
     split at h
     ·obtain ⟨u, p4, e1, e2, h4⟩ := rounds_reads k _ _ _ l3 hb3 h
      have hl : (s.length : Int) = n := by rw [hlen]; simp; omega
      refine ⟨p1 ++ (p2 ++ (p3 ++ p4)), by rw [e2]; simp, ?_, by rw [hlen]; simp; omega⟩
      rw [hl, e1, nOver_snoc]
      have eg : gapN (⟨t + 1 - (z + 1), t + 1⟩ : S47) [] = t := by simp only [gapN]; omega
      have ez : (⟨t + 1 - (z + 1), t + 1⟩ : S47).f1 - (⟨t + 1 - (z + 1), t + 1⟩ : S47).f0 - 1 = z := by simp only; omega
      rw [eg, ez]
      exact RL.cons hp1 (RL.cons hp2 (RL.cons hp3 h4))
     ·cases h
  ·cases h
theorem nums_reads : ∀ (os : List Nat) (f : Nat → Int) (l : List Int) {f' : Nat → Int} {r : List Int}, os.Nodup → bytesOk l = true → rNums os f l = some (f', r) → ∃ p, l = p ++ r ∧ RL p (os.map f') ∧ (∀ j, j ∉ os → f' j = f j)
 | [], f, l, f', r, _, hb, h => by
  simp only [rNums, Option.some.injEq, Prod.mk.injEq] at h
  obtain ⟨rfl, rfl⟩ := h
  exact ⟨[], rfl, RL.nil, fun _ _ => rfl⟩
 | o :: os, f, l, f', r, hd, hb, h => by
  unfold rNums at h
  cases hN : uNum l with
  | none => rw [hN] at h; cases h
  | some q =>
   rw [hN, Option.bind_some] at h
   obtain ⟨v, l1⟩ := q
   obtain ⟨p1, rfl, hp1⟩ := uNum_at hb hN
   obtain ⟨_, _, hb1⟩ := uNum_suffix hb hN
   obtain ⟨ho, hd⟩ := List.nodup_cons.1 hd
   obtain ⟨p, e, hp, hj⟩ := nums_reads os _ l1 hd hb1 h
   refine ⟨p1 ++ p, by rw [e]; simp, ?_, fun j hjn => ?_⟩
   ·rw [List.map_cons, show f' o = v by rw [hj o ho]; simp [upd]]
    exact RL.cons hp1 hp
   ·rw [hj j (fun hm => hjn (List.mem_cons_of_mem _ hm))]
    unfold upd
    rw [if_neg (fun e => hjn (by rw [e]; exact List.mem_cons_self ..))]
theorem fOffs_nodup {a0 : Int} {os : List Nat} (h : fOffs a0 = some os) : os.Nodup := by
 unfold fOffs at h
 repeat (first | (obtain rfl := Option.some.inj h; decide) | (split at h) | (cases h; done))
theorem chk_parts {a0 a1 a2 a3 a4 a5 a6 : Int} {a7 : Bool} {n : Nat} {s : List S47} {os : List Nat} (ho : fOffs a0 = some os) (h : uChk a0 a1 a2 a3 a4 a5 a6 a7 n s = 0) :
  uBad os a1 a2 a3 a4 a5 a6 = false ∧ (a0 = 2 ∨ a0 = 3 → spOk s = true) ∧ (¬ (a0 = 2 ∨ a0 = 3) → s = []) ∧ n ≤ 1200 ∧ (a0 = 14 ∨ a7 = false ∧ n = 0) := by
 unfold uChk at h
 rw [ho] at h
 simp only at h
 split at h
 ·cases h
 ·rename_i hb
  refine ⟨by simpa using hb, ?_⟩
  split at h
  ·rename_i hk
   split at h
   ·rename_i hs
    have := tail_zero h
    exact ⟨fun _ => hs, fun hh => absurd hk hh, this.1, this.2⟩
   ·cases h
  ·rename_i hk
   split at h
   ·cases h
   ·have := tail_zero h
    exact ⟨fun hh => absurd hh hk, fun _ => List.eq_nil_of_length_eq_zero (by omega), this.1, this.2⟩
def numsOf (K : Int) (fin : Bool) (os : List Nat) (g : Nat → Int) (s : List S47) (n : Nat) : List Int :=
 [uKind K fin] ++ (if s.length = 0 then [] else (s.length : Int) :: nOver s []) ++ os.map g ++ (if K = 14 then [(n : Int)] else [])
theorem end_reads {K K' : Int} {fin fin' : Bool} {s s' : List S47} {f f' : Nat → Int} {l d r : List Int} (hb : bytesOk l = true) (h : rEnd K fin s f l = some (K', f', fin', d, s', r)) :
  K' = K ∧ f' = f ∧ fin' = fin ∧ s' = s ∧ uChk K (f 1) (f 2) (f 3) (f 4) (f 5) (f 6) fin d.length s = 0 ∧ (K ≠ 14 → d = []) ∧ bytesOk d = true ∧ ∃ p, l = p ++ d ++ r ∧ RL p (if K = 14 then [(d.length : Int)] else []) := by
 unfold rEnd at h
 split at h
 ·rename_i hK
  cases hN : uNum l with
  | none => rw [hN] at h; cases h
  | some q =>
   rw [hN, Option.bind_some] at h
   obtain ⟨v, l1⟩ := q
   obtain ⟨p, rfl, hp⟩ := uNum_at hb hN
   obtain ⟨_, _, hb1⟩ := uNum_suffix hb hN
   split at h
   ·rename_i hle
    obtain ⟨hc, e⟩ := rChk_some h
    simp only [Prod.mk.injEq] at e
    obtain ⟨rfl, rfl, rfl, rfl, rfl, rfl⟩ := e
    have hv := hp.2.2.1
    simp only at hle
    have hl : ((l1.take v.toNat).length : Int) = v := by rw [List.length_take]; omega
    refine ⟨rfl, rfl, rfl, rfl, hc, fun hn => absurd hK hn, ?_, p, ?_, ?_⟩
    ·exact List.all_eq_true.2 fun x hx => List.all_eq_true.1 hb1 x (List.mem_of_mem_take hx)
    ·rw [List.append_assoc, List.take_append_drop]
    ·rw [if_pos hK, hl]; exact RL.one hp
   ·cases h
 ·rename_i hK
  obtain ⟨hc, e⟩ := rChk_some h
  simp only [Prod.mk.injEq] at e
  obtain ⟨rfl, rfl, rfl, rfl, rfl, rfl⟩ := e
  exact ⟨rfl, rfl, rfl, rfl, hc, fun _ => rfl, rfl, [], rfl, by rw [if_neg hK]; exact RL.nil⟩
theorem kind_reads {K K' : Int} {fin fin' : Bool} {s : List S47} {f : Nat → Int} {l d r : List Int} (hb : bytesOk l = true) (h : rKind K fin l = some (K', f, fin', d, s, r)) :
  K' = K ∧ fin' = fin ∧ ∃ os p, fOffs K = some os ∧ l = p ++ d ++ r ∧ RL p ((if s.length = 0 then [] else (s.length : Int) :: nOver s []) ++ os.map f ++ (if K = 14 then [(d.length : Int)] else [])) ∧ uChk K (f 1) (f 2) (f 3) (f 4) (f 5) (f 6) fin d.length s = 0 ∧ (K ≠ 14 → d = []) ∧ bytesOk d = true := by
 unfold rKind at h
 cases ho : fOffs K with
 | none => rw [ho] at h; cases h
 | some os =>
  rw [ho] at h
  simp only at h
  have hd := fOffs_nodup ho
  split at h
  ·cases hs : rSp l with
   | none => rw [hs] at h; cases h
   | some q =>
    obtain ⟨s1, l1⟩ := q
    rw [hs, Option.bind_some] at h
    obtain ⟨p1, rfl, hp1, hpos⟩ := sp_reads hb hs
    obtain ⟨_, hb1⟩ := rSp_suffix hb hs
    cases hn : rNums os (fun _ => 0) l1 with
    | none => simp only [hn] at h; cases h
    | some q =>
     obtain ⟨f1, l2⟩ := q
     simp only [hn, Option.bind_some] at h
     obtain ⟨p2, rfl, hp2, _⟩ := nums_reads os _ l1 hd hb1 hn
     obtain ⟨_, hb2⟩ := rNums_suffix _ _ _ hb1 hn
     obtain ⟨rfl, rfl, rfl, rfl, hc, hn14, hbd, p3, rfl, hp3⟩ := end_reads hb2 h
     refine ⟨rfl, rfl, os, p1 ++ (p2 ++ p3), rfl, by simp, ?_, hc, hn14, hbd⟩
     rw [if_neg (by omega), List.append_assoc]
     exact RL.app hp1 (RL.app hp2 hp3)
  ·cases hn : rNums os (fun _ => 0) l with
   | none => rw [hn] at h; cases h
   | some q =>
    obtain ⟨f1, l2⟩ := q
    rw [hn, Option.bind_some] at h
    obtain ⟨p2, rfl, hp2, _⟩ := nums_reads os _ l hd hb hn
    obtain ⟨_, hb2⟩ := rNums_suffix _ _ _ hb hn
    obtain ⟨rfl, rfl, rfl, rfl, hc, hn14, hbd, p3, rfl, hp3⟩ := end_reads hb2 h
    refine ⟨rfl, rfl, os, p2 ++ p3, rfl, by simp, ?_, hc, hn14, hbd⟩
    rw [if_pos (by simp), List.nil_append]
    exact RL.app hp2 hp3
theorem frame_reads {K : Int} {fin : Bool} {s : List S47} {f : Nat → Int} {l d r : List Int} (hb : bytesOk l = true) (h : rFr l = some (K, f, fin, d, s, r)) :
  ∃ os p, fOffs K = some os ∧ l = p ++ d ++ r ∧ RL p (numsOf K fin os f s d.length) ∧ uChk K (f 1) (f 2) (f 3) (f 4) (f 5) (f 6) fin d.length s = 0 ∧ (K ≠ 14 → d = []) ∧ bytesOk d = true := by
 unfold rFr at h
 cases hN : uNum l with
 | none => rw [hN] at h; cases h
 | some q =>
  rw [hN, Option.bind_some] at h
  obtain ⟨n, l1⟩ := q
  obtain ⟨p1, rfl, hp1⟩ := uNum_at hb hN
  obtain ⟨_, _, hb1⟩ := uNum_suffix hb hN
  simp only at h
  split at h
  ·split at h
   ·rename_i h15
    obtain ⟨rfl, rfl, os, p, ho, rfl, hp, hc, hn, hbd⟩ := kind_reads hb1 h
    refine ⟨os, p1 ++ p, ho, by simp, ?_, hc, hn, hbd⟩
    unfold numsOf
    rw [List.append_assoc, List.append_assoc, ← List.append_assoc (if s.length = 0 then _ else _)]
    rw [show uKind 14 true = n by rw [h15]; rfl]
    exact RL.cons hp1 hp
   ·obtain ⟨rfl, rfl, os, p, ho, rfl, hp, hc, hn, hbd⟩ := kind_reads hb1 h
    refine ⟨os, p1 ++ p, ho, by simp, ?_, hc, hn, hbd⟩
    unfold numsOf
    rw [List.append_assoc, List.append_assoc, ← List.append_assoc (if s.length = 0 then _ else _)]
    exact RL.cons hp1 hp
  ·cases h
theorem chk_fOffs {a0 a1 a2 a3 a4 a5 a6 : Int} {a7 : Bool} {n : Nat} {l9 : List S47} (hc : uChk a0 a1 a2 a3 a4 a5 a6 a7 n l9 = 0) : ∃ os, fOffs a0 = some os := by
 cases h : fOffs a0 with
 | none => unfold uChk at hc; rw [h] at hc; cases hc
 | some os => exact ⟨os, rfl⟩
theorem awake_ok {k : Nat} (hk : 60 ≤ k) : wigwaglaw05_awake.f k = some true := at_rounds wigwaglaw05_awake.mono hk (by decide +kernel)
theorem u8_wf {x : Int} (h : (Lit.int .u8 x).wf = true) : 0 ≤ x ∧ x < 256 := by
 have e1 : IntKind.u8.min = 0 := rfl
 have e2 : IntKind.u8.max = 255 := rfl
 simp [Lit.wf, e1, e2] at h
 omega
theorem bytes_wf {l : List Int} (h : ∀ x ∈ l, (Lit.int .u8 x).wf = true) : bytesOk l = true := List.all_eq_true.2 fun x hx => by
 have := u8_wf (h x hx)
 simpa using this
theorem parse_f {l : List Int} (hb : bytesOk l = true) (hl : l.length < 1000000) : frame_Parse.f l = some (uParse l) := by
 unfold frame_Parse.f
 rw [if_pos ⟨hb, hl⟩]
theorem wq {x : Int} (h : 0 ≤ x ∧ x < 4611686018427387904) : W64 x := ⟨h.1, by omega⟩
theorem rsp_loop (l : List S47) (hl : l.length < 1000000) : ∀ d K i : Nat, i + d = l.length → d < K → wigwagref05_spans.l0 K l (i : Int) = some (okS (prevS l i) (l.drop i)) := by
 intro d
 induction d with
 | zero =>
  intro K i hi hk
  obtain ⟨k, rfl⟩ : ∃ k, K = k + 1 := ⟨K - 1, by omega⟩
  rw [wigwagref05_spans.l0, if_neg (by omega), List.drop_of_length_le (by omega)]
  simp only [okS]
 | succ d ih =>
  intro K i hi hk
  obtain ⟨k, rfl⟩ : ∃ k, K = k + 1 := ⟨K - 1, by omega⟩
  have hlt : i < l.length := by omega
  have hn : wrap64 ((i : Int) + 1) = ((i + 1 : Nat) : Int) := by unfold wrap64; omega
  have ih' := ih k (i + 1) (by omega) (by omega)
  rw [wigwagref05_spans.l0, if_pos (by omega), if_pos (by omega), okS_step hlt, hn, ih', rdT]
  by_cases h1 : (l.getD i z47).f0 ≥ (l.getD i z47).f1
  ·rw [if_pos h1, decide_eq_false (by omega : ¬ (l.getD i z47).f0 < (l.getD i z47).f1)]; simp
  ·rw [if_neg h1, decide_eq_true (by omega : (l.getD i z47).f0 < (l.getD i z47).f1)]
   by_cases h2 : (l.getD i z47).f1 > 4611686018427387904
   ·rw [if_pos h2, decide_eq_false (by omega : ¬ (l.getD i z47).f1 ≤ 4611686018427387904)]; simp
   ·rw [if_neg h2, decide_eq_true (by omega : (l.getD i z47).f1 ≤ 4611686018427387904)]
    by_cases h3 : i = 0
    ·rw [if_neg (by omega), if_pos h3]; simp
    ·have hp : wrap64 ((i : Int) - 1) = ((i - 1 : Nat) : Int) := by unfold wrap64; omega
     rw [if_pos (by omega), hp, if_pos (by omega), if_pos (by omega), rdT, if_neg h3]
     by_cases h4 : (l.getD i z47).f0 ≤ (l.getD (i - 1) z47).f1
     ·rw [if_pos h4, decide_eq_false (by omega : ¬ (l.getD (i - 1) z47).f1 < (l.getD i z47).f0)]; simp
     ·rw [if_neg h4, decide_eq_true (by omega : (l.getD (i - 1) z47).f1 < (l.getD i z47).f0)]; simp
theorem rsp_eq {l : List S47} {K : Nat} (hl : l.length < 1000000) (hk : l.length < K) : wigwagref05_spans.f K l = some (spOk l) := by
 have h := rsp_loop l hl l.length K 0 (by omega) (by omega)
 unfold wigwagref05_spans.f spOk
 by_cases h1 : (l.length : Int) < 1
 ·rw [if_pos h1, decide_eq_false (by omega : ¬ 1 ≤ l.length)]; simp
 ·rw [if_neg h1, decide_eq_true (by omega : 1 ≤ l.length)]
  by_cases h2 : (l.length : Int) > 32
  ·rw [if_pos h2, decide_eq_false (by omega : ¬ l.length ≤ 32)]; simp
  ·rw [if_neg h2, decide_eq_true (by omega : l.length ≤ 32), show (0 : Int) = ((0 : Nat) : Int) from rfl, h]
   simp [prevS]
theorem rchk_eq {K : Nat} {a0 a1 a2 a3 a4 a5 a6 : Int} {a7 : Bool} {l8 : List Int} {l9 : List S47} (W1 : W64 a1) (W2 : W64 a2) (W3 : W64 a3) (W4 : W64 a4) (W5 : W64 a5) (W6 : W64 a6) (h8 : l8.length < 1000000) (h9 : l9.length < 1000000) (hK : l9.length < K) :
  wigwagref05_Check.f K a0 a1 a2 a3 a4 a5 a6 a7 l8 l9 = some (uChk a0 a1 a2 a3 a4 a5 a6 a7 l8.length l9) := by
 unfold wigwagref05_Check.f uChk
 rw [if_pos ⟨W1, W2, W3, W4, W5, W6, h8, h9⟩]
 cases fOffs a0 with
 | none => rfl
 | some os =>
  simp only
  by_cases hb : uBad os a1 a2 a3 a4 a5 a6 = true
  ·rw [if_pos hb, if_pos hb]
  ·rw [if_neg hb, if_neg hb, rsp_eq h9 hK, Option.bind_some]
   by_cases hk : a0 = 2 ∨ a0 = 3
   ·have e : (a0 == 2 || a0 == 3) = true := by simpa using hk
    rw [if_pos hk, e]
    cases hs : spOk l9 with
    | true => rw [if_neg (by simp), if_pos rfl]
    | false => rw [if_pos (by simp), if_neg (by simp)]
   ·have e : (a0 == 2 || a0 == 3) = false := by simpa using hk
    rw [if_neg hk, e]
    by_cases hl : 0 < l9.length
    ·rw [if_pos (.inr ⟨rfl, hl⟩), if_pos hl]
    ·have hs : spOk l9 = false := by
      unfold spOk
      rw [decide_eq_false (by omega : ¬ 1 ≤ l9.length)]
      rfl
     rw [hs, if_neg (fun h => h.elim (fun h => absurd h (by decide)) (fun h => hl h.2)), if_neg hl]
theorem fOffs_cases {a0 : Int} {os : List Nat} (h : fOffs a0 = some os) : (a0 = 0 ∨ a0 = 1 ∨ a0 = 30) ∧ os = [] ∨ (a0 = 2) ∧ os = [5] ∨ (a0 = 3) ∧ os = [5, 6] ∨ (a0 = 4) ∧ os = [1, 4, 3] ∨ (a0 = 5) ∧ os = [1, 4] ∨ (a0 = 6) ∧ os = [3, 2, 1] ∨ (a0 = 14) ∧ os = [1, 2] ∨ (a0 = 16 ∨ a0 = 18 ∨ a0 = 20) ∧ os = [3] ∨ (a0 = 17 ∨ a0 = 21) ∧ os = [1, 3] ∨ (a0 = 28) ∧ os = [4] := by
 unfold fOffs at h
 split at h
 ·exact .inl ⟨‹_›, (Option.some.inj h).symm⟩
 split at h
 ·exact .inr (.inl ⟨‹_›, (Option.some.inj h).symm⟩)
 split at h
 ·exact .inr (.inr (.inl ⟨‹_›, (Option.some.inj h).symm⟩))
 split at h
 ·exact .inr (.inr (.inr (.inl ⟨‹_›, (Option.some.inj h).symm⟩)))
 split at h
 ·exact .inr (.inr (.inr (.inr (.inl ⟨‹_›, (Option.some.inj h).symm⟩))))
 split at h
 ·exact .inr (.inr (.inr (.inr (.inr (.inl ⟨‹_›, (Option.some.inj h).symm⟩)))))
 split at h
 ·exact .inr (.inr (.inr (.inr (.inr (.inr (.inl ⟨‹_›, (Option.some.inj h).symm⟩))))))
 split at h
 ·exact .inr (.inr (.inr (.inr (.inr (.inr (.inr (.inl ⟨‹_›, (Option.some.inj h).symm⟩)))))))
 split at h
 ·exact .inr (.inr (.inr (.inr (.inr (.inr (.inr (.inr (.inl ⟨‹_›, (Option.some.inj h).symm⟩))))))))
 split at h
 ·exact .inr (.inr (.inr (.inr (.inr (.inr (.inr (.inr (.inr (⟨‹_›, (Option.some.inj h).symm⟩)))))))))
 cases h
end Go.Proofs.Ytphakdfholkbdaa
end
