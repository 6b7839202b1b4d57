import Derived.Outline
import Derived.Handy
import Derived.Recover
import Derived.WalkSmall
import Derived.Laws.Externs
import Derived.Laws.CopyOwn
import Derived.Lib.AppendZerosOnto
import Derived.Lib.Overlaps
import Derived.Deep.RegionLaw
import Derived.Test.YtphakdfholkbdaaPFrax0
import Derived.Test.YtphakdfholkbdaaNum
import Derived.Test.YtphakdfholkbdaaSeg
import Derived.Test.YtphakdfholkbdaaFraB
import Derived.Test.YtphakdfholkbdaaFrPt
import Derived.Test.YtphakdfholkbdaaPFrax9
import Derived.Test.YtphakdfholkbdaaPFrax13
import Derived.Test.YtphakdfholkbdaaPFrax14
import Derived.Test.YtphakdfholkbdaaPFrax15
namespace Go.Proofs.Ytphakdfholkbdaa
open Go.Proofs.Ytphakdfholkbdaa.PFra Go.RowKit Go.Proofs.YtphakdfholkbdaaW.PrintWords Go.Proofs.YtphakdfholkbdaaW.PrintLast Go.Proofs.YtphakdfholkbdaaW.PrintMore
set_option maxRecDepth 100000
set_option maxHeartbeats 4000000
set_option linter.unusedVariables false
set_option linter.unusedSimpArgs false
/-- A number's bytes, whatever stands behind them. -/
def Num1 (p : List Int) (v : Int) : Prop := (∀ q, uNum (p ++ q) = some (v, q)) ∧ (uPut v).length ≤ p.length ∧ 0 ≤ v ∧ v < 4611686018427387904 ∧ 0 < p.length
inductive RL : List Int → List Int → Prop
  | nil : RL [] []
  | cons {p q : List Int} {v : Int} {ns : List Int} : Num1 p v → RL q ns → RL (p ++ q) (v :: ns)
theorem RL.one {p : List Int} {v : Int} (h : Num1 p v) : RL p [v] := by simpa using RL.cons h RL.nil
theorem RL.app {p q ns ms : List Int} (h : RL p ns) (k : RL q ms) : RL (p ++ q) (ns ++ ms) := by
  induction h with
  | nil => exact k
  | cons h _ ih => rw [List.append_assoc]; exact RL.cons h ih
theorem RL.len {p ns : List Int} (h : RL p ns) : (uNums ns).length ≤ p.length := by
  induction h with
  | nil => simp [uNums]
  | cons h _ ih =>
    have := h.2.1
    simp only [uNums, List.flatMap_cons, List.length_append] at ih ⊢
    omega
theorem RL.inv {p ns : List Int} {v : Int} (h : RL p (v :: ns)) : ∃ p1 p2, p = p1 ++ p2 ∧ Num1 p1 v ∧ RL p2 ns := by
  cases h with
  | cons h1 h2 => exact ⟨_, _, rfl, h1, h2⟩
theorem RL.inv_nil {p : List Int} (h : RL p []) : p = [] := by cases h; rfl
theorem RL.split {ns ms p : List Int} (h : RL p (ns ++ ms)) : ∃ p1 p2, p = p1 ++ p2 ∧ RL p1 ns ∧ RL p2 ms := by
  induction ns generalizing p with
  | nil => exact ⟨[], p, rfl, RL.nil, h⟩
  | cons v ns ih =>
    obtain ⟨a, b, rfl, h1, h2⟩ := RL.inv h
    obtain ⟨c, d, rfl, h3, h4⟩ := ih h2
    exact ⟨a ++ c, d, by rw [List.append_assoc], RL.cons h1 h3, h4⟩
theorem rd_app {p q : List Int} (h : 0 < p.length) : rd (p ++ q) 0 = rd p 0 := by
  cases p with
  | nil => simp at h
  | cons x t => rfl
theorem uNum_ok {l : List Int} (h : 0 < l.length) (hn : uGetN l ≤ l.length) : uNum l = some (uGetV l, l.drop (uGetN l)) := by
  have e : uGet l = (uGetV l, (uGetN l : Int), 0) := by
    unfold uGet
    rw [if_neg (by omega), if_neg (by omega)]
  unfold uNum
  rw [e]
  simp
theorem uNum_at {l l' : List Int} {v : Int} (hb : bytesOk l = true) (h : uNum l = some (v, l')) : ∃ p, l = p ++ l' ∧ Num1 p v := by
  obtain ⟨hv, hb', hlt, e1, e2, hle, hpos⟩ := uNum_some hb h
  have hp : (l.take (uGetN l)).length = uGetN l := by rw [List.length_take]; omega
  have hr : ∀ q, rd (l.take (uGetN l) ++ q) 0 = rd l 0 := fun q => by
    conv => { rhs; rw [← List.take_append_drop (uGetN l) l] }
    rw [rd_app (by omega), rd_app (by omega)]
  have hN : ∀ q, uGetN (l.take (uGetN l) ++ q) = uGetN l := fun q => by
    have : ∀ a b : List Int, rd a 0 = rd b 0 → uGetN a = uGetN b := fun a b h => by unfold uGetN; rw [h]
    exact this _ _ (hr q)
  have hV : ∀ q, uGetV (l.take (uGetN l) ++ q) = uGetV l := fun q => by
    have e : (l.take (uGetN l) ++ q).take (uGetN (l.take (uGetN l) ++ q)) = l.take (uGetN l) := by
      rw [hN, List.take_append_of_le_length (by omega), List.take_of_length_le (by omega)]
    have : ∀ a b : List Int, rd a 0 = rd b 0 → a.take (uGetN a) = b.take (uGetN b) → uGetV a = uGetV b := fun a b h1 h2 => by unfold uGetV; rw [h1, h2]
    exact this _ _ (hr q) e
  refine ⟨l.take (uGetN l), by rw [e1, List.take_append_drop], fun q => ?_, ?_, hv.1, hv.2, by omega⟩
  · rw [uNum_ok (by rw [List.length_append]; omega) (by rw [hN, List.length_append]; omega), hN, hV, ← e2]
    congr 2
    rw [List.drop_append_of_le_length (by omega), List.drop_of_length_le (by omega), List.nil_append]
  · rw [hp]
    have hc := uGetN_cases hb
    have hf := foldl_lt ((l.take (uGetN l)).drop 1) (rd l 0 % 64) 64 (fun x hx => bytes_mem hb (List.mem_of_mem_take (List.mem_of_mem_drop hx))) (by omega) (by omega)
    have hl : ((l.take (uGetN l)).drop 1).length = uGetN l - 1 := by rw [List.length_drop, hp]
    rw [hl] at hf
    have hf2 : v < 64 * 256 ^ (uGetN l - 1) := e2 ▸ hf.2
    have g1 : (64 : Int) * 256 ^ (1 - 1) = 64 := by decide
    have g2 : (64 : Int) * 256 ^ (2 - 1) = 16384 := by decide
    have g4 : (64 : Int) * 256 ^ (4 - 1) = 1073741824 := by decide
    have g8 : (64 : Int) * 256 ^ (8 - 1) = 4611686018427387904 := by decide
    have hl8 := uPut_len v
    unfold uPut at hl8 ⊢
    rcases hc with e | e | e | e <;> rw [e] at hf2 ⊢
    · rw [g1] at hf2; rw [if_pos hf2]; simp
    · rw [g2] at hf2; rw [if_pos hf2]; split <;> simp
    · rw [g4] at hf2; rw [if_pos hf2]; split
      · simp
      · split <;> simp
    · exact hl8
theorem uPut_num {x : Int} (h0 : 0 ≤ x) (h1 : x < 4611686018427387904) : Num1 (uPut x) x := by
  refine ⟨fun q => ?_, Nat.le_refl _, h0, h1, ?_⟩
  · have key : ∀ p : List Int, 0 < p.length → uGetN (p ++ q) = p.length → uGetV (p ++ q) = x → uNum (p ++ q) = some (x, q) := fun p hp hn hv => by
      rw [uNum_ok (by rw [List.length_append]; omega) (by rw [hn, List.length_append]; omega), hn, hv, List.drop_left]
    unfold uPut
    split
    · refine key _ (by simp) ?_ ?_
      · simp only [uGetN, List.cons_append, List.nil_append, rd, List.getD, List.length_cons, List.length_nil]
        simp
        omega
      · simp only [uGetV, uGetN, List.cons_append, List.nil_append, rd, List.getD]
        simp
        have : (x / 64).toNat = 0 := by omega
        rw [this]
        simp
        omega
    · split
      · refine key _ (by simp) ?_ ?_
        · simp only [uGetN, List.cons_append, List.nil_append, rd, List.getD, List.length_cons, List.length_nil]
          simp
          have : ((x / 256 + 64) / 64).toNat = 1 := by omega
          rw [this]
        · simp only [uGetV, uGetN, List.cons_append, List.nil_append, rd, List.getD]
          simp
          have : ((x / 256 + 64) / 64).toNat = 1 := by omega
          rw [this]
          simp
          omega
      · split
        · refine key _ (by simp) ?_ ?_
          · simp only [uGetN, List.cons_append, List.nil_append, rd, List.getD, List.length_cons, List.length_nil]
            simp
            have : ((x / 16777216 + 128) / 64).toNat = 2 := by omega
            rw [this]
          · simp only [uGetV, uGetN, List.cons_append, List.nil_append, rd, List.getD]
            simp
            have : ((x / 16777216 + 128) / 64).toNat = 2 := by omega
            rw [this]
            simp
            omega
        · refine key _ (by simp) ?_ ?_
          · simp only [uGetN, List.cons_append, List.nil_append, rd, List.getD, List.length_cons, List.length_nil]
            simp
            have : ((x / 72057594037927936 + 192) / 64).toNat = 3 := by omega
            rw [this]
          · simp only [uGetV, uGetN, List.cons_append, List.nil_append, rd, List.getD]
            simp
            have : ((x / 72057594037927936 + 192) / 64).toNat = 3 := by omega
            rw [this]
            simp
            omega
  · unfold uPut
    repeat' split
    all_goals first | simp | omega
theorem uNums_RL {ns : List Int} (h : ∀ v ∈ ns, 0 ≤ v ∧ v < 4611686018427387904) : RL (uNums ns) ns := by
  induction ns with
  | nil => exact RL.nil
  | cons v ns ih =>
    have hv := h v (by simp)
    have : uNums (v :: ns) = uPut v ++ uNums ns := by simp [uNums]
    rw [this]
    exact RL.cons (uPut_num hv.1 hv.2) (ih fun w hw => h w (by simp [hw]))
def gapN (x : S47) : List S47 → Int
  | [] => x.f1 - 1
  | y :: _ => y.f0 - x.f1 - 1
/-- The numbers of an ack's spans, as they are read, over those that were read before. -/
def nOver : List S47 → List S47 → List Int
  | [], _ => []
  | x :: t, s => nOver t s ++ [gapN x (t ++ s), x.f1 - x.f0 - 1]
theorem nOver_snoc (x : S47) (s : List S47) : ∀ t, nOver (t ++ [x]) s = gapN x s :: (x.f1 - x.f0 - 1) :: nOver t (x :: s)
  | [] => rfl
  | y :: t => by
    rw [List.cons_append, nOver, nOver_snoc x s t, nOver]
    simp
theorem rounds_reads : ∀ (k : Nat) (tp : Int) (y : S47) (s : List S47) (l : List Int) {s' : List S47} {r : List Int}, bytesOk l = true → rRounds k tp (y :: s) l = some (s', r) → ∃ t p, s' = t ++ y :: s ∧ l = p ++ r ∧ RL p (nOver t (y :: s))
  | 0, tp, y, s, l, s', r, hb, h => by
    simp only [rRounds, Option.some.injEq, Prod.mk.injEq] at h
    obtain ⟨rfl, rfl⟩ := h
    exact ⟨[], [], rfl, rfl, RL.nil⟩
  | k + 1, tp, y, s, l, s', r, hb, h => by
    unfold rRounds at h
    cases hN : uNum l with
    | none => rw [hN] at h; cases h
    | some q =>
      rw [hN, Option.bind_some] at h
      obtain ⟨g, l1⟩ := q
      obtain ⟨p1, rfl, hp1⟩ := uNum_at hb hN
      obtain ⟨_, _, hb1⟩ := uNum_suffix hb hN
      split at h
      · cases hN1 : uNum l1 with
        | none => rw [hN1] at h; cases h
        | some q =>
          rw [hN1, Option.bind_some] at h
          obtain ⟨z, l2⟩ := q
          obtain ⟨p2, rfl, hp2⟩ := uNum_at hb1 hN1
          obtain ⟨_, _, hb2⟩ := uNum_suffix hb1 hN1
          split at h
          · obtain ⟨t, p3, e1, e2, h3⟩ := rounds_reads k _ _ _ l2 hb2 h
            refine ⟨t ++ [⟨y.f0 - (g + 1) - (z + 1), y.f0 - (g + 1)⟩], p1 ++ (p2 ++ p3), by rw [e1]; simp, by rw [e2]; simp, ?_⟩
            rw [nOver_snoc]
            have eg : gapN (⟨y.f0 - (g + 1) - (z + 1), y.f0 - (g + 1)⟩ : S47) (y :: s) = g := by simp only [gapN]; omega
            have ez : (⟨y.f0 - (g + 1) - (z + 1), y.f0 - (g + 1)⟩ : S47).f1 - (⟨y.f0 - (g + 1) - (z + 1), y.f0 - (g + 1)⟩ : S47).f0 - 1 = z := by simp only; omega
            rw [eg, ez]
            exact RL.cons hp1 (RL.cons hp2 h3)
          · cases h
      · cases h
theorem sp_reads {l r : List Int} {s : List S47} (hb : bytesOk l = true) (h : rSp l = some (s, r)) : ∃ p, l = p ++ r ∧ RL p ((s.length : Int) :: nOver s []) ∧ 0 < s.length := by
  unfold rSp at h
  cases hN : uNum l with
  | none => rw [hN] at h; cases h
  | some q =>
    rw [hN, Option.bind_some] at h
    obtain ⟨n, l1⟩ := q
    obtain ⟨p1, rfl, hp1⟩ := uNum_at hb hN
    obtain ⟨_, _, hb1⟩ := uNum_suffix hb hN
    split at h
    · rename_i hg
      simp only at hg
      cases hN1 : uNum l1 with
      | none => rw [hN1] at h; cases h
      | some q =>
        rw [hN1, Option.bind_some] at h
        obtain ⟨t, l2⟩ := q
        obtain ⟨p2, rfl, hp2⟩ := uNum_at hb1 hN1
        obtain ⟨_, _, hb2⟩ := uNum_suffix hb1 hN1
        simp only at h
        obtain ⟨hlen, _, _⟩ := rRounds_len _ _ _ _ hb2 h
        obtain ⟨k, hk⟩ : ∃ k, n.toNat = k + 1 := ⟨n.toNat - 1, by omega⟩
        rw [hk] at h
        unfold rRounds at h
        cases hN2 : uNum l2 with
        | none => rw [hN2] at h; cases h
        | some q =>
          rw [hN2, Option.bind_some] at h
          obtain ⟨z, l3⟩ := q
          obtain ⟨p3, rfl, hp3⟩ := uNum_at hb2 hN2
          obtain ⟨_, _, hb3⟩ := uNum_suffix hb2 hN2
          split at h
          · obtain ⟨u, p4, e1, e2, h4⟩ := rounds_reads k _ _ _ l3 hb3 h
            have hl : (s.length : Int) = n := by rw [hlen]; simp; omega
            refine ⟨p1 ++ (p2 ++ (p3 ++ p4)), by rw [e2]; simp, ?_, by rw [hlen]; simp; omega⟩
            rw [hl, e1, nOver_snoc]
            have eg : gapN (⟨t + 1 - (z + 1), t + 1⟩ : S47) [] = t := by simp only [gapN]; omega
            have ez : (⟨t + 1 - (z + 1), t + 1⟩ : S47).f1 - (⟨t + 1 - (z + 1), t + 1⟩ : S47).f0 - 1 = z := by simp only; omega
            rw [eg, ez]
            exact RL.cons hp1 (RL.cons hp2 (RL.cons hp3 h4))
          · cases h
    · cases h
theorem okS_mem : ∀ {l : List S47} {p : Option Int}, okS p l = true → ∀ x ∈ l, x.f0 < x.f1 ∧ x.f1 ≤ 4611686018427387904
  | [], _, _, x, hx => by cases hx
  | y :: l, p, h, x, hx => by
    rw [okS.eq_def] at h
    simp only [Bool.and_eq_true, decide_eq_true_eq] at h
    rcases List.mem_cons.1 hx with rfl | hx
    · exact ⟨h.1.1.1, h.1.1.2⟩
    · exact okS_mem h.2 x hx
theorem rounds_back : ∀ (k : Nat) (t : List S47) (y : S47) (s : List S47) (p r : List Int) (tp : Int), t.length = k → (∀ x ∈ t, 0 ≤ x.f0 ∧ x.f0 < x.f1) → RL p (nOver t (y :: s)) → rRounds k tp (y :: s) (p ++ r) = some (t ++ y :: s, r)
  | 0, t, y, s, p, r, tp, hk, ht, h => by
    obtain rfl := List.eq_nil_of_length_eq_zero hk
    obtain rfl := RL.inv_nil h
    rfl
  | k + 1, t, y, s, p, r, tp, hk, ht, h => by
    rcases List.eq_nil_or_concat t with rfl | ⟨t', x, e⟩
    · cases hk
    · rw [List.concat_eq_append] at e
      subst e
      have hx := ht x (by simp)
      rw [nOver_snoc] at h
      obtain ⟨p1, q, rfl, h1, h⟩ := RL.inv h
      obtain ⟨p2, q, rfl, h2, h⟩ := RL.inv h
      have hg := h1.2.2.1
      simp only [gapN] at h1 hg
      unfold rRounds
      rw [List.append_assoc, h1.1, Option.bind_some]
      simp only
      rw [if_pos (by omega), List.append_assoc, h2.1, Option.bind_some]
      simp only
      rw [if_pos (by omega)]
      have e : (⟨y.f0 - (y.f0 - x.f1 - 1 + 1) - (x.f1 - x.f0 - 1 + 1), y.f0 - (y.f0 - x.f1 - 1 + 1)⟩ : S47) = x := by
        cases x; simp only [S47.mk.injEq]; omega
      rw [e, rounds_back k t' x (y :: s) _ r _ (by simp at hk; omega) (fun z hz => ht z (by simp [hz])) h]
      simp
theorem sp_back {s : List S47} {p r : List Int} (h1 : 1 ≤ s.length) (h2 : s.length ≤ 32) (hs : ∀ x ∈ s, 0 ≤ x.f0 ∧ x.f0 < x.f1) (h : RL p ((s.length : Int) :: nOver s [])) : rSp (p ++ r) = some (s, r) := by
  obtain ⟨p1, q, rfl, g1, h⟩ := RL.inv h
  rcases List.eq_nil_or_concat s with rfl | ⟨t, x, e⟩
  · simp at h1
  · rw [List.concat_eq_append] at e
    subst e
    have hx := hs x (by simp)
    rw [nOver_snoc] at h
    obtain ⟨p2, q, rfl, g2, h⟩ := RL.inv h
    obtain ⟨p3, q, rfl, g3, h⟩ := RL.inv h
    simp only [gapN] at g2
    unfold rSp
    rw [List.append_assoc, g1.1, Option.bind_some]
    simp only
    rw [if_pos (by omega), List.append_assoc, g2.1, Option.bind_some]
    simp only
    rw [Int.toNat_natCast, List.length_append, List.length_singleton]
    unfold rRounds
    rw [List.append_assoc, g3.1, Option.bind_some]
    simp only
    rw [if_pos (by omega)]
    have e : (⟨x.f1 - 1 + 1 - (x.f1 - x.f0 - 1 + 1), x.f1 - 1 + 1⟩ : S47) = x := by
      cases x; simp only [S47.mk.injEq]; omega
    rw [e, rounds_back t.length t x [] q r _ rfl (fun z hz => hs z (by simp [hz])) h]
theorem nums_reads : ∀ (os : List Nat) (f : Nat → Int) (l : List Int) {f' : Nat → Int} {r : List Int}, os.Nodup → bytesOk l = true → rNums os f l = some (f', r) → ∃ p, l = p ++ r ∧ RL p (os.map f') ∧ (∀ j, j ∉ os → f' j = f j)
  | [], f, l, f', r, _, hb, h => by
    simp only [rNums, Option.some.injEq, Prod.mk.injEq] at h
    obtain ⟨rfl, rfl⟩ := h
    exact ⟨[], rfl, RL.nil, fun _ _ => rfl⟩
  | o :: os, f, l, f', r, hd, hb, h => by
    unfold rNums at h
    cases hN : uNum l with
    | none => rw [hN] at h; cases h
    | some q =>
      rw [hN, Option.bind_some] at h
      obtain ⟨v, l1⟩ := q
      obtain ⟨p1, rfl, hp1⟩ := uNum_at hb hN
      obtain ⟨_, _, hb1⟩ := uNum_suffix hb hN
      obtain ⟨ho, hd⟩ := List.nodup_cons.1 hd
      obtain ⟨p, e, hp, hj⟩ := nums_reads os _ l1 hd hb1 h
      refine ⟨p1 ++ p, by rw [e]; simp, ?_, fun j hjn => ?_⟩
      · rw [List.map_cons, show f' o = v by rw [hj o ho]; simp [upd]]
        exact RL.cons hp1 hp
      · rw [hj j (fun hm => hjn (List.mem_cons_of_mem _ hm))]
        unfold upd
        rw [if_neg (fun e => hjn (by rw [e]; exact List.mem_cons_self ..))]
theorem nums_back : ∀ (os : List Nat) (f g : Nat → Int) (p r : List Int), os.Nodup → RL p (os.map g) → ∃ f', rNums os f (p ++ r) = some (f', r) ∧ (∀ j, j ∈ os → f' j = g j) ∧ (∀ j, j ∉ os → f' j = f j)
  | [], f, g, p, r, _, h => by
    obtain rfl := RL.inv_nil h
    exact ⟨f, rfl, (fun _ hj => absurd hj (by simp)), fun _ _ => rfl⟩
  | o :: os, f, g, p, r, hd, h => by
    obtain ⟨p1, q, rfl, h1, h⟩ := RL.inv h
    obtain ⟨ho, hd⟩ := List.nodup_cons.1 hd
    obtain ⟨f', e, hi, hn⟩ := nums_back os (upd f o (g o)) g q r hd h
    refine ⟨f', ?_, fun j hj => ?_, fun j hj => ?_⟩
    · unfold rNums
      rw [List.append_assoc, h1.1, Option.bind_some]
      exact e
    · rcases List.mem_cons.1 hj with rfl | hj
      · rw [hn _ ho]; simp [upd]
      · exact hi j hj
    · rw [hn j (fun hm => hj (List.mem_cons_of_mem _ hm))]
      unfold upd
      rw [if_neg (fun e => hj (by rw [e]; exact List.mem_cons_self ..))]
theorem fOffs_nodup {a0 : Int} {os : List Nat} (h : fOffs a0 = some os) : os.Nodup := by
  unfold fOffs at h
  repeat (first | (obtain rfl := Option.some.inj h; decide) | (split at h) | (cases h; done))
theorem chk_parts {a0 a1 a2 a3 a4 a5 a6 : Int} {a7 : Bool} {n : Nat} {s : List S47} {os : List Nat} (ho : fOffs a0 = some os) (h : uChk a0 a1 a2 a3 a4 a5 a6 a7 n s = 0) :
    uBad os a1 a2 a3 a4 a5 a6 = false ∧ (a0 = 2 ∨ a0 = 3 → spOk s = true) ∧ (¬ (a0 = 2 ∨ a0 = 3) → s = []) ∧ n ≤ 1200 ∧ (a0 = 14 ∨ a7 = false ∧ n = 0) := by
  unfold uChk at h
  rw [ho] at h
  simp only at h
  split at h
  · cases h
  · rename_i hb
    refine ⟨by simpa using hb, ?_⟩
    split at h
    · rename_i hk
      split at h
      · rename_i hs
        have := tail_zero h
        exact ⟨fun _ => hs, fun hh => absurd hk hh, this.1, this.2⟩
      · cases h
    · rename_i hk
      split at h
      · cases h
      · have := tail_zero h
        exact ⟨fun hh => absurd hh hk, fun _ => List.eq_nil_of_length_eq_zero (by omega), this.1, this.2⟩
theorem bad_each {os : List Nat} {g : Nat → Int} (h : uBad os (g 1) (g 2) (g 3) (g 4) (g 5) (g 6) = false) (j : Nat) (h1 : 1 ≤ j) (h6 : j ≤ 6) : (j ∉ os → g j = 0) ∧ (j ∈ os → g j ≤ 4611686018427387903) := by
  unfold uBad at h
  simp only [Bool.or_eq_false_iff] at h
  obtain ⟨⟨⟨⟨⟨b1, b2⟩, b3⟩, b4⟩, b5⟩, b6⟩ := h
  have hb : badF os j (g j) = false := by
    have : j = 1 ∨ j = 2 ∨ j = 3 ∨ j = 4 ∨ j = 5 ∨ j = 6 := by omega
    rcases this with rfl | rfl | rfl | rfl | rfl | rfl <;> assumption
  unfold badF at hb
  refine ⟨fun hj => ?_, fun hj => ?_⟩
  · rw [if_neg hj] at hb
    simpa using hb
  · rw [if_pos hj] at hb
    have := of_decide_eq_false hb
    omega
/-- A frame's numbers, in their order. -/
def numsOf (K : Int) (fin : Bool) (os : List Nat) (g : Nat → Int) (s : List S47) (n : Nat) : List Int :=
  [uKind K fin] ++ (if s.length = 0 then [] else (s.length : Int) :: nOver s []) ++ os.map g ++ (if K = 14 then [(n : Int)] else [])
theorem end_reads {K K' : Int} {fin fin' : Bool} {s s' : List S47} {f f' : Nat → Int} {l d r : List Int} (hb : bytesOk l = true) (h : rEnd K fin s f l = some (K', f', fin', d, s', r)) :
    K' = K ∧ f' = f ∧ fin' = fin ∧ s' = s ∧ uChk K (f 1) (f 2) (f 3) (f 4) (f 5) (f 6) fin d.length s = 0 ∧ (K ≠ 14 → d = []) ∧ bytesOk d = true ∧ ∃ p, l = p ++ d ++ r ∧ RL p (if K = 14 then [(d.length : Int)] else []) := by
  unfold rEnd at h
  split at h
  · rename_i hK
    cases hN : uNum l with
    | none => rw [hN] at h; cases h
    | some q =>
      rw [hN, Option.bind_some] at h
      obtain ⟨v, l1⟩ := q
      obtain ⟨p, rfl, hp⟩ := uNum_at hb hN
      obtain ⟨_, _, hb1⟩ := uNum_suffix hb hN
      split at h
      · rename_i hle
        obtain ⟨hc, e⟩ := rChk_some h
        simp only [Prod.mk.injEq] at e
        obtain ⟨rfl, rfl, rfl, rfl, rfl, rfl⟩ := e
        have hv := hp.2.2.1
        simp only at hle
        have hl : ((l1.take v.toNat).length : Int) = v := by rw [List.length_take]; omega
        refine ⟨rfl, rfl, rfl, rfl, hc, fun hn => absurd hK hn, ?_, p, ?_, ?_⟩
        · exact List.all_eq_true.2 fun x hx => List.all_eq_true.1 hb1 x (List.mem_of_mem_take hx)
        · rw [List.append_assoc, List.take_append_drop]
        · rw [if_pos hK, hl]; exact RL.one hp
      · cases h
  · rename_i hK
    obtain ⟨hc, e⟩ := rChk_some h
    simp only [Prod.mk.injEq] at e
    obtain ⟨rfl, rfl, rfl, rfl, rfl, rfl⟩ := e
    exact ⟨rfl, rfl, rfl, rfl, hc, fun _ => rfl, rfl, [], rfl, by rw [if_neg hK]; exact RL.nil⟩
theorem kind_reads {K K' : Int} {fin fin' : Bool} {s : List S47} {f : Nat → Int} {l d r : List Int} (hb : bytesOk l = true) (h : rKind K fin l = some (K', f, fin', d, s, r)) :
    K' = K ∧ fin' = fin ∧ ∃ os p, fOffs K = some os ∧ l = p ++ d ++ r ∧ RL p ((if s.length = 0 then [] else (s.length : Int) :: nOver s []) ++ os.map f ++ (if K = 14 then [(d.length : Int)] else [])) ∧ uChk K (f 1) (f 2) (f 3) (f 4) (f 5) (f 6) fin d.length s = 0 ∧ (K ≠ 14 → d = []) ∧ bytesOk d = true := by
  unfold rKind at h
  cases ho : fOffs K with
  | none => rw [ho] at h; cases h
  | some os =>
    rw [ho] at h
    simp only at h
    have hd := fOffs_nodup ho
    split at h
    · cases hs : rSp l with
      | none => rw [hs] at h; cases h
      | some q =>
        obtain ⟨s1, l1⟩ := q
        rw [hs, Option.bind_some] at h
        obtain ⟨p1, rfl, hp1, hpos⟩ := sp_reads hb hs
        obtain ⟨_, hb1⟩ := rSp_suffix hb hs
        cases hn : rNums os (fun _ => 0) l1 with
        | none => simp only [hn] at h; cases h
        | some q =>
          obtain ⟨f1, l2⟩ := q
          simp only [hn, Option.bind_some] at h
          obtain ⟨p2, rfl, hp2, _⟩ := nums_reads os _ l1 hd hb1 hn
          obtain ⟨_, hb2⟩ := rNums_suffix _ _ _ hb1 hn
          obtain ⟨rfl, rfl, rfl, rfl, hc, hn14, hbd, p3, rfl, hp3⟩ := end_reads hb2 h
          refine ⟨rfl, rfl, os, p1 ++ (p2 ++ p3), rfl, by simp, ?_, hc, hn14, hbd⟩
          rw [if_neg (by omega), List.append_assoc]
          exact RL.app hp1 (RL.app hp2 hp3)
    · cases hn : rNums os (fun _ => 0) l with
      | none => rw [hn] at h; cases h
      | some q =>
        obtain ⟨f1, l2⟩ := q
        rw [hn, Option.bind_some] at h
        obtain ⟨p2, rfl, hp2, _⟩ := nums_reads os _ l hd hb hn
        obtain ⟨_, hb2⟩ := rNums_suffix _ _ _ hb hn
        obtain ⟨rfl, rfl, rfl, rfl, hc, hn14, hbd, p3, rfl, hp3⟩ := end_reads hb2 h
        refine ⟨rfl, rfl, os, p2 ++ p3, rfl, by simp, ?_, hc, hn14, hbd⟩
        rw [if_pos (by simp), List.nil_append]
        exact RL.app hp2 hp3
/-- What is read, begins with the frame's numbers. -/
theorem frame_reads {K : Int} {fin : Bool} {s : List S47} {f : Nat → Int} {l d r : List Int} (hb : bytesOk l = true) (h : rFr l = some (K, f, fin, d, s, r)) :
    ∃ os p, fOffs K = some os ∧ l = p ++ d ++ r ∧ RL p (numsOf K fin os f s d.length) ∧ uChk K (f 1) (f 2) (f 3) (f 4) (f 5) (f 6) fin d.length s = 0 ∧ (K ≠ 14 → d = []) ∧ bytesOk d = true := by
  unfold rFr at h
  cases hN : uNum l with
  | none => rw [hN] at h; cases h
  | some q =>
    rw [hN, Option.bind_some] at h
    obtain ⟨n, l1⟩ := q
    obtain ⟨p1, rfl, hp1⟩ := uNum_at hb hN
    obtain ⟨_, _, hb1⟩ := uNum_suffix hb hN
    simp only at h
    split at h
    · split at h
      · rename_i h15
        obtain ⟨rfl, rfl, os, p, ho, rfl, hp, hc, hn, hbd⟩ := kind_reads hb1 h
        refine ⟨os, p1 ++ p, ho, by simp, ?_, hc, hn, hbd⟩
        unfold numsOf
        rw [List.append_assoc, List.append_assoc, ← List.append_assoc (if s.length = 0 then _ else _)]
        rw [show uKind 14 true = n by rw [h15]; rfl]
        exact RL.cons hp1 hp
      · obtain ⟨rfl, rfl, os, p, ho, rfl, hp, hc, hn, hbd⟩ := kind_reads hb1 h
        refine ⟨os, p1 ++ p, ho, by simp, ?_, hc, hn, hbd⟩
        unfold numsOf
        rw [List.append_assoc, List.append_assoc, ← List.append_assoc (if s.length = 0 then _ else _)]
        exact RL.cons hp1 hp
    · cases h
/-- A frame's numbers are read as that frame. -/
theorem frame_back {K : Int} {fin : Bool} {s : List S47} {g : Nat → Int} {p d r : List Int} {os : List Nat} (ho : fOffs K = some os) (hc : uChk K (g 1) (g 2) (g 3) (g 4) (g 5) (g 6) fin d.length s = 0) (hs : ∀ x ∈ s, 0 ≤ x.f0) (hp : RL p (numsOf K fin os g s d.length)) :
    ∃ f, rFr (p ++ (d ++ r)) = some (K, f, fin, d, s, r) ∧ ∀ j, 1 ≤ j → j ≤ 6 → f j = g j := by
  obtain ⟨hbad, hsp, hno, hd, hfin⟩ := chk_parts ho hc
  obtain ⟨hr0, hr1⟩ := fOffs_range ho
  have hnd := fOffs_nodup ho
  unfold numsOf at hp
  rw [List.append_assoc, List.append_assoc] at hp
  obtain ⟨p1, q, rfl, h1, hp⟩ := RL.inv hp
  replace hp : RL q ((if s.length = 0 then [] else (s.length : Int) :: nOver s []) ++ (os.map g ++ (if K = 14 then [(d.length : Int)] else []))) := hp
  rw [← List.append_assoc] at hp
  have main : ∃ f, rKind K fin (q ++ (d ++ r)) = some (K, f, fin, d, s, r) ∧ ∀ j, 1 ≤ j → j ≤ 6 → f j = g j := by
    obtain ⟨q12, q3, rfl, hq, h3⟩ := RL.split hp
    obtain ⟨q1, q2, rfl, h1', h2⟩ := RL.split hq
    obtain ⟨f, ef, hi, hn⟩ := nums_back os (fun _ => 0) g q2 (q3 ++ (d ++ r)) hnd h2
    have hf : ∀ j, 1 ≤ j → j ≤ 6 → f j = g j := fun j a b => by
      by_cases hj : j ∈ os
      · exact hi j hj
      · rw [hn j hj, (bad_each hbad j a b).1 hj]
    refine ⟨f, ?_, hf⟩
    have hchk : rChk K fin s f d r = some (K, f, fin, d, s, r) := by
      unfold rChk
      rw [hf 1 (by omega) (by omega), hf 2 (by omega) (by omega), hf 3 (by omega) (by omega), hf 4 (by omega) (by omega), hf 5 (by omega) (by omega), hf 6 (by omega) (by omega), if_pos hc]
    have hend : rEnd K fin s f (q3 ++ (d ++ r)) = some (K, f, fin, d, s, r) := by
      unfold rEnd
      by_cases hK : K = 14
      · rw [if_pos hK] at h3 ⊢
        obtain ⟨p4, p5, rfl, h4, h5⟩ := RL.inv h3
        obtain rfl := RL.inv_nil h5
        rw [List.append_nil, h4.1, Option.bind_some]
        simp only
        rw [if_pos (by rw [List.length_append]; omega), Int.toNat_natCast, List.take_left, List.drop_left]
        exact hchk
      · rw [if_neg hK] at h3 ⊢
        obtain rfl := RL.inv_nil h3
        have hd0 : d = [] := by
          rcases hfin with h | ⟨_, h⟩
          · exact absurd h hK
          · exact List.eq_nil_of_length_eq_zero h
        subst hd0
        exact hchk
    unfold rKind
    rw [ho]
    simp only
    by_cases hk : K = 2 ∨ K = 3
    · rw [if_pos hk]
      have hok := hsp hk
      unfold spOk at hok
      simp only [Bool.and_eq_true, decide_eq_true_eq] at hok
      rw [if_neg (by omega)] at h1'
      have e := sp_back (r := q2 ++ (q3 ++ (d ++ r))) hok.1.1 hok.1.2 (fun x hx => ⟨hs x hx, (okS_mem hok.2 x hx).1⟩) h1'
      rw [List.append_assoc, List.append_assoc, e, Option.bind_some]
      simp only
      rw [ef, Option.bind_some]
      exact hend
    · rw [if_neg hk]
      have hs0 := hno hk
      subst hs0
      rw [if_pos (by simp)] at h1'
      obtain rfl := RL.inv_nil h1'
      rw [List.nil_append, List.append_assoc, ef, Option.bind_some]
      exact hend
  obtain ⟨f, hf, hj⟩ := main
  refine ⟨f, ?_, hj⟩
  unfold rFr
  rw [List.append_assoc, h1.1, Option.bind_some]
  simp only
  unfold uKind
  cases fin with
  | true =>
    have hK : K = 14 := by
      rcases hfin with h | ⟨h, _⟩
      · exact h
      · cases h
    subst hK
    rw [if_pos rfl, if_pos (by decide), if_pos (by decide)]
    exact hf
  | false =>
    have hne : K ≠ 15 := fun e => by subst e; cases ho
    have e0 : (if false = true then K + 1 else K) = K := if_neg (by decide)
    rw [e0, if_pos hr1, if_neg hne]
    exact hf
def gA (a1 a2 a3 a4 a5 a6 : Int) : Nat → Int := fun j => selA j a1 a2 a3 a4 a5 a6
theorem gA_each (a1 a2 a3 a4 a5 a6 : Int) : gA a1 a2 a3 a4 a5 a6 1 = a1 ∧ gA a1 a2 a3 a4 a5 a6 2 = a2 ∧ gA a1 a2 a3 a4 a5 a6 3 = a3 ∧ gA a1 a2 a3 a4 a5 a6 4 = a4 ∧ gA a1 a2 a3 a4 a5 a6 5 = a5 ∧ gA a1 a2 a3 a4 a5 a6 6 = a6 := ⟨rfl, rfl, rfl, rfl, rfl, rfl⟩
theorem okS_next : ∀ {l : List S47} {p : Option Int} {i : Nat}, okS p l = true → (h : i + 1 < l.length) → (l[i]'(by omega)).f1 < (l[i + 1]).f0
  | [], _, _, _, h => by simp at h
  | [x], _, i, _, h => by simp at h
  | x :: y :: l, p, 0, h, _ => by
    rw [okS.eq_def] at h
    simp only [Bool.and_eq_true] at h
    have h2 := h.2
    rw [okS.eq_def] at h2
    simp only [Bool.and_eq_true, decide_eq_true_eq] at h2
    exact h2.1.2
  | x :: y :: l, p, i + 1, h, hi => by
    rw [okS.eq_def] at h
    simp only [Bool.and_eq_true] at h
    exact okS_next (l := y :: l) (i := i) h.2 (by simpa using hi)
theorem spNums_eq {l : List S47} (hok : okS none l = true) (h0 : ∀ x ∈ l, 0 ≤ x.f0) : ∀ k, k ≤ l.length → spNums l k = nOver (l.drop (l.length - k)) [] := by
  intro k
  induction k with
  | zero => intro _; rw [Nat.sub_zero, List.drop_length]; rfl
  | succ k ih =>
    intro hk
    have hi : l.length - (k + 1) < l.length := by omega
    have hg : l.getD (l.length - 1 - k) z47 = l[l.length - (k + 1)] := by
      rw [show l.length - 1 - k = l.length - (k + 1) by omega]
      simp [List.getD, List.getElem?_eq_getElem hi]
    rw [spNums_succ, ih (by omega), List.drop_eq_getElem_cons hi, nOver, show l.length - (k + 1) + 1 = l.length - k by omega, List.append_nil]
    have hm := List.getElem_mem hi
    have hb := okS_mem hok _ hm
    have hz := h0 _ hm
    congr 1
    have e2 : lenAt l (l.length - 1 - k) = l[l.length - (k + 1)].f1 - l[l.length - (k + 1)].f0 - 1 := by
      unfold lenAt
      rw [hg, w64 (x := l[l.length - (k + 1)].f1 - l[l.length - (k + 1)].f0) ⟨by omega, by omega⟩, w64 ⟨by omega, by omega⟩]
    have e1 : gapAt l (l.length - 1 - k) = gapN l[l.length - (k + 1)] (l.drop (l.length - k)) := by
      unfold gapAt
      by_cases hlast : k = 0
      · subst hlast
        rw [if_pos (by omega), hg, Nat.sub_zero, List.drop_length, w64 ⟨by omega, by omega⟩]
        rfl
      · have hi2 : l.length - k < l.length := by omega
        have hg2 : l.getD (l.length - 1 - k + 1) z47 = l[l.length - k] := by
          rw [show l.length - 1 - k + 1 = l.length - k by omega]
          simp [List.getD, List.getElem?_eq_getElem hi2]
        have hn : l[l.length - (k + 1)].f1 < l[l.length - k].f0 := by
          have := okS_next (i := l.length - (k + 1)) hok (by omega)
          simpa only [show l.length - (k + 1) + 1 = l.length - k by omega] using this
        have hb2 := okS_mem hok _ (List.getElem_mem hi2)
        rw [if_neg (by omega), hg, hg2, List.drop_eq_getElem_cons hi2, w64 (x := l[l.length - k].f0 - l[l.length - (k + 1)].f1) ⟨by omega, by omega⟩, w64 ⟨by omega, by omega⟩]
        rfl
    rw [e1, e2]
theorem enc_eq {a0 a1 a2 a3 a4 a5 a6 : Int} {a7 : Bool} {l8 : List Int} {l9 : List S47} {os : List Nat} (ho : fOffs a0 = some os) (hc : uChk a0 a1 a2 a3 a4 a5 a6 a7 l8.length l9 = 0) (h0 : ∀ x ∈ l9, 0 ≤ x.f0) :
    uEnc a0 a1 a2 a3 a4 a5 a6 a7 l8 l9 = uNums (numsOf a0 a7 os (gA a1 a2 a3 a4 a5 a6) l9 l8.length) ++ l8 := by
  obtain ⟨_, hsp, hno, _, hfin⟩ := chk_parts ho hc
  have hs : (if l9.length = 0 then [] else uNums [(l9.length : Int)] ++ uNums (spNums l9 l9.length)) = uNums (if l9.length = 0 then [] else (l9.length : Int) :: nOver l9 []) := by
    by_cases hl : l9.length = 0
    · rw [if_pos hl, if_pos hl]; rfl
    · rw [if_neg hl, if_neg hl]
      have hk : a0 = 2 ∨ a0 = 3 := Decidable.byContradiction fun h => hl (by rw [hno h]; rfl)
      have hok := hsp hk
      unfold spOk at hok
      simp only [Bool.and_eq_true] at hok
      rw [spNums_eq hok.2 h0 l9.length (Nat.le_refl _), Nat.sub_self, List.drop_zero, ← uNums_app]
      rfl
  have hd : (if a0 = 14 then uNums [(l8.length : Int)] ++ l8 else []) = uNums (if a0 = 14 then [(l8.length : Int)] else []) ++ l8 := by
    by_cases h : a0 = 14
    · rw [if_pos h, if_pos h]
    · rw [if_neg h, if_neg h]
      rcases hfin with hh | ⟨_, hh⟩
      · exact absurd hh h
      · rw [List.eq_nil_of_length_eq_zero hh]; rfl
  unfold uEnc numsOf
  rw [hs, hd, ho]
  simp only [uNums_app, List.append_assoc, Option.getD_some]
  rfl
theorem selA_gA (o : Nat) (a1 a2 a3 a4 a5 a6 : Int) : selA o a1 a2 a3 a4 a5 a6 = gA a1 a2 a3 a4 a5 a6 o := rfl
theorem nums_bound {a0 a1 a2 a3 a4 a5 a6 : Int} {a7 : Bool} {n : Nat} {l9 : List S47} {os : List Nat} (ho : fOffs a0 = some os) (hc : uChk a0 a1 a2 a3 a4 a5 a6 a7 n l9 = 0) (h0 : ∀ x ∈ l9, 0 ≤ x.f0) (hw : ∀ j, 0 ≤ gA a1 a2 a3 a4 a5 a6 j) : ∀ v ∈ numsOf a0 a7 os (gA a1 a2 a3 a4 a5 a6) l9 n, 0 ≤ v ∧ v < 4611686018427387904 := by
  obtain ⟨hbad, hsp, hno, hn, hfin⟩ := chk_parts ho hc
  obtain ⟨hr0, hr1⟩ := fOffs_range ho
  obtain ⟨hm, _⟩ := fOffs_mem ho
  intro v hv
  unfold numsOf at hv
  simp only [List.mem_append, List.mem_singleton] at hv
  rcases hv with ((rfl | hv) | hv) | hv
  · unfold uKind; split <;> omega
  · by_cases hl : l9.length = 0
    · rw [if_pos hl] at hv; cases hv
    · rw [if_neg hl] at hv
      have hk : a0 = 2 ∨ a0 = 3 := Decidable.byContradiction fun h => hl (by rw [hno h]; rfl)
      have hok := hsp hk
      unfold spOk at hok
      simp only [Bool.and_eq_true, decide_eq_true_eq] at hok
      rcases List.mem_cons.1 hv with rfl | hv
      · omega
      · have key : ∀ (l : List S47) (p : Option Int), okS p l = true → (∀ x ∈ l, 0 ≤ x.f0) → ∀ v ∈ nOver l [], 0 ≤ v ∧ v < 4611686018427387904 := by
          intro l
          induction l with
          | nil => intro p _ _ v hv; cases hv
          | cons x t ih =>
            intro p hp hx v hv
            have hxx := okS_mem hp x (by simp)
            have hx0 := hx x (by simp)
            have ht : okS (some x.f1) t = true := by
              rw [okS.eq_def] at hp
              simp only [Bool.and_eq_true] at hp
              exact hp.2
            rw [nOver, List.append_nil] at hv
            simp only [List.mem_append, List.mem_cons, List.not_mem_nil, or_false] at hv
            rcases hv with hv | rfl | rfl
            · exact ih _ ht (fun y hy => hx y (by simp [hy])) v hv
            · cases t with
              | nil => simp only [gapN]; omega
              | cons y t =>
                have hy := okS_mem ht y (by simp)
                have hlt : x.f1 < y.f0 := by
                  rw [okS.eq_def] at ht
                  simp only [Bool.and_eq_true, decide_eq_true_eq] at ht
                  exact ht.1.2
                simp only [gapN]; omega
            · omega
        exact key l9 none hok.2 h0 v hv
  · obtain ⟨o, ho', rfl⟩ := List.mem_map.1 hv
    obtain ⟨h1, h6⟩ := hm o ho'
    have := (bad_each (g := gA a1 a2 a3 a4 a5 a6) hbad o h1 h6).2 ho'
    exact ⟨hw o, by omega⟩
  · by_cases h : a0 = 14
    · rw [if_pos h, List.mem_singleton] at hv
      subst hv
      omega
    · rw [if_neg h] at hv; cases hv
theorem gA_nn {a1 a2 a3 a4 a5 a6 : Int} (W1 : W64 a1) (W2 : W64 a2) (W3 : W64 a3) (W4 : W64 a4) (W5 : W64 a5) (W6 : W64 a6) (j : Nat) : 0 ≤ gA a1 a2 a3 a4 a5 a6 j := by
  have e : W64 (gA a1 a2 a3 a4 a5 a6 j) := selA_w' j W1 W2 W3 W4 W5 W6
  exact e.1
/-- A frame that may be is parsed as itself, whatever stands behind it. -/
theorem parse_back {a0 a1 a2 a3 a4 a5 a6 : Int} {a7 : Bool} {l8 : List Int} {l9 : List S47} {os : List Nat} (r : List Int) (ho : fOffs a0 = some os) (hc : uChk a0 a1 a2 a3 a4 a5 a6 a7 l8.length l9 = 0) (h0 : ∀ x ∈ l9, 0 ≤ x.f0) (hw : ∀ j, 0 ≤ gA a1 a2 a3 a4 a5 a6 j) :
    uParse (uEnc a0 a1 a2 a3 a4 a5 a6 a7 l8 l9 ++ r) = (a0, a1, a2, a3, a4, a5, a6, a7, l8, l9, ((uEnc a0 a1 a2 a3 a4 a5 a6 a7 l8 l9).length : Int), 0) := by
  obtain ⟨f, hf, hj⟩ := frame_back (g := gA a1 a2 a3 a4 a5 a6) (fin := a7) (d := l8) (s := l9) (r := r) ho hc h0 (uNums_RL (nums_bound ho hc h0 hw))
  unfold uParse
  rw [enc_eq ho hc h0, List.append_assoc, hf]
  simp only [List.length_append]
  rw [hj 1 (by omega) (by omega), hj 2 (by omega) (by omega), hj 3 (by omega) (by omega), hj 4 (by omega) (by omega), hj 5 (by omega) (by omega), hj 6 (by omega) (by omega)]
  simp only [gA_each, Prod.mk.injEq, true_and]
  exact ⟨by omega, trivial⟩
theorem chk_fOffs {a0 a1 a2 a3 a4 a5 a6 : Int} {a7 : Bool} {n : Nat} {l9 : List S47} (hc : uChk a0 a1 a2 a3 a4 a5 a6 a7 n l9 = 0) : ∃ os, fOffs a0 = some os := by
  cases h : fOffs a0 with
  | none => unfold uChk at hc; rw [h] at hc; cases hc
  | some os => exact ⟨os, rfl⟩
theorem bytes_app {a b : List Int} (ha : bytesOk a = true) (hb : bytesOk b = true) : bytesOk (a ++ b) = true := by
  unfold bytesOk at *
  rw [List.all_append, ha, hb]
  rfl
theorem bytes_put {x : Int} (h0 : 0 ≤ x) : bytesOk (uPut x) = true := by
  unfold uPut
  repeat' split
  all_goals simp only [bytesOk, List.all_cons, List.all_nil, Bool.and_true, Bool.and_eq_true, decide_eq_true_eq]
  all_goals omega
theorem bytes_nums {ns : List Int} (h : ∀ v ∈ ns, 0 ≤ v) : bytesOk (uNums ns) = true := by
  induction ns with
  | nil => rfl
  | cons v ns ih =>
    have e : uNums (v :: ns) = uPut v ++ uNums ns := by simp [uNums]
    rw [e]
    exact bytes_app (bytes_put (h v (by simp))) (ih fun w hw => h w (by simp [hw]))
theorem enc_bytes {a0 a1 a2 a3 a4 a5 a6 : Int} {a7 : Bool} {l8 : List Int} {l9 : List S47} {os : List Nat} (ho : fOffs a0 = some os) (hc : uChk a0 a1 a2 a3 a4 a5 a6 a7 l8.length l9 = 0) (h0 : ∀ x ∈ l9, 0 ≤ x.f0) (hw : ∀ j, 0 ≤ gA a1 a2 a3 a4 a5 a6 j) (h8 : bytesOk l8 = true) : bytesOk (uEnc a0 a1 a2 a3 a4 a5 a6 a7 l8 l9) = true := by
  rw [enc_eq ho hc h0]
  exact bytes_app (bytes_nums fun v hv => (nums_bound ho hc h0 hw v hv).1) h8
theorem awake_ok {k : Nat} (hk : 60 ≤ k) : wigwaglaw05_awake.f k = some true := at_rounds wigwaglaw05_awake.mono hk (by decide +kernel)
theorem u8_wf {x : Int} (h : (Lit.int .u8 x).wf = true) : 0 ≤ x ∧ x < 256 := by
  have e1 : IntKind.u8.min = 0 := rfl
  have e2 : IntKind.u8.max = 255 := rfl
  simp [Lit.wf, e1, e2] at h
  omega
theorem bytes_wf {l : List Int} (h : ∀ x ∈ l, (Lit.int .u8 x).wf = true) : bytesOk l = true := List.all_eq_true.2 fun x hx => by
  have := u8_wf (h x hx)
  simpa using this
theorem nums_len : ∀ (ns : List Int), (uNums ns).length ≤ 8 * ns.length := uNums_len
theorem nOver_len : ∀ (t s : List S47), (nOver t s).length = 2 * t.length
  | [], _ => rfl
  | x :: t, s => by simp [nOver, nOver_len t s]; omega
theorem enc_len {a0 a1 a2 a3 a4 a5 a6 : Int} {a7 : Bool} {l8 : List Int} {l9 : List S47} {os : List Nat} (ho : fOffs a0 = some os) (hc : uChk a0 a1 a2 a3 a4 a5 a6 a7 l8.length l9 = 0) (h0 : ∀ x ∈ l9, 0 ≤ x.f0) : (uEnc a0 a1 a2 a3 a4 a5 a6 a7 l8 l9).length ≤ 3000 := by
  obtain ⟨_, hsp, hno, hn, _⟩ := chk_parts ho hc
  obtain ⟨_, hol⟩ := fOffs_mem ho
  rw [enc_eq ho hc h0, List.length_append]
  have := uNums_len (numsOf a0 a7 os (gA a1 a2 a3 a4 a5 a6) l9 l8.length)
  have hl9 : l9.length ≤ 32 := by
    by_cases hk : a0 = 2 ∨ a0 = 3
    · have hok := hsp hk
      unfold spOk at hok
      simp only [Bool.and_eq_true, decide_eq_true_eq] at hok
      exact hok.1.2
    · rw [hno hk]; simp
  have h2 : (numsOf a0 a7 os (gA a1 a2 a3 a4 a5 a6) l9 l8.length).length ≤ 70 := by
    unfold numsOf
    simp only [List.length_append, List.length_map, List.length_singleton]
    have h3 : (if l9.length = 0 then ([] : List Int) else (l9.length : Int) :: nOver l9 []).length ≤ 65 := by
      split
      · simp
      · simp only [List.length_cons, nOver_len]; omega
    have h4 : (if a0 = 14 then [(l8.length : Int)] else []).length ≤ 1 := by split <;> simp
    omega
  omega
theorem rounds_nn : ∀ (k : Nat) (tp : Int) (s : List S47) (l : List Int) {s' : List S47} {r : List Int}, bytesOk l = true → (∀ x ∈ s, 0 ≤ x.f0) → rRounds k tp s l = some (s', r) → ∀ x ∈ s', 0 ≤ x.f0
  | 0, tp, s, l, s', r, hb, hs, h => by
    simp only [rRounds, Option.some.injEq, Prod.mk.injEq] at h
    obtain ⟨rfl, rfl⟩ := h
    exact hs
  | k + 1, tp, [], l, s', r, hb, hs, h => by
    unfold rRounds at h
    cases hN : uNum l with
    | none => rw [hN] at h; cases h
    | some q =>
      rw [hN, Option.bind_some] at h
      obtain ⟨v, l1⟩ := q
      obtain ⟨_, _, hb1⟩ := uNum_suffix hb hN
      split at h
      · rename_i hg
        refine rounds_nn k _ _ l1 hb1 (fun x hx => ?_) h
        rw [List.mem_singleton] at hx
        subst hx
        simp only at hg ⊢
        omega
      · cases h
  | k + 1, tp, y :: s, l, s', r, hb, hs, h => by
    unfold rRounds at h
    cases hN : uNum l with
    | none => rw [hN] at h; cases h
    | some q =>
      rw [hN, Option.bind_some] at h
      obtain ⟨v, l1⟩ := q
      obtain ⟨_, _, hb1⟩ := uNum_suffix hb hN
      split at h
      · cases hN1 : uNum l1 with
        | none => rw [hN1] at h; cases h
        | some q =>
          rw [hN1, Option.bind_some] at h
          obtain ⟨v2, l2⟩ := q
          obtain ⟨_, _, hb2⟩ := uNum_suffix hb1 hN1
          split at h
          · rename_i hg
            refine rounds_nn k _ _ l2 hb2 (fun x hx => ?_) h
            rcases List.mem_cons.1 hx with rfl | hx
            · simp only at hg ⊢
              omega
            · exact hs x hx
          · cases h
      · cases h
theorem sp_nn {l r : List Int} {s : List S47} (hb : bytesOk l = true) (h : rSp l = some (s, r)) : ∀ x ∈ s, 0 ≤ x.f0 := by
  unfold rSp at h
  cases hN : uNum l with
  | none => rw [hN] at h; cases h
  | some q =>
    rw [hN, Option.bind_some] at h
    obtain ⟨v, l1⟩ := q
    obtain ⟨_, _, hb1⟩ := uNum_suffix hb hN
    split at h
    · cases hN1 : uNum l1 with
      | none => rw [hN1] at h; cases h
      | some q =>
        rw [hN1, Option.bind_some] at h
        obtain ⟨v2, l2⟩ := q
        obtain ⟨_, _, hb2⟩ := uNum_suffix hb1 hN1
        exact rounds_nn _ _ _ _ hb2 (fun x hx => by cases hx) h
    · cases h
theorem kind_nn {K K' : Int} {fin fin' : Bool} {s : List S47} {f : Nat → Int} {l d r : List Int} (hb : bytesOk l = true) (h : rKind K fin l = some (K', f, fin', d, s, r)) : ∀ x ∈ s, 0 ≤ x.f0 := by
  unfold rKind at h
  split at h
  · cases h
  · rename_i os ho
    split at h
    · cases hs : rSp l with
      | none => rw [hs] at h; cases h
      | some q =>
        obtain ⟨s1, l1⟩ := q
        rw [hs, Option.bind_some] at h
        obtain ⟨_, hb1⟩ := rSp_suffix hb hs
        cases hn : rNums os (fun _ => 0) l1 with
        | none => simp only [hn] at h; cases h
        | some q =>
          obtain ⟨f1, l2⟩ := q
          simp only [hn, Option.bind_some] at h
          obtain ⟨_, hb2⟩ := rNums_suffix _ _ _ hb1 hn
          obtain ⟨_, _, _, rfl, _⟩ := end_reads hb2 h
          exact sp_nn hb hs
    · cases hn : rNums os (fun _ => 0) l with
      | none => rw [hn] at h; cases h
      | some q =>
        obtain ⟨f1, l2⟩ := q
        rw [hn, Option.bind_some] at h
        obtain ⟨_, hb2⟩ := rNums_suffix _ _ _ hb hn
        obtain ⟨_, _, _, rfl, _⟩ := end_reads hb2 h
        exact fun x hx => by cases hx
theorem frame_nn {K : Int} {fin : Bool} {s : List S47} {f : Nat → Int} {l d r : List Int} (hb : bytesOk l = true) (h : rFr l = some (K, f, fin, d, s, r)) : ∀ x ∈ s, 0 ≤ x.f0 := by
  unfold rFr at h
  cases hN : uNum l with
  | none => rw [hN] at h; cases h
  | some q =>
    rw [hN, Option.bind_some] at h
    obtain ⟨n, l1⟩ := q
    obtain ⟨_, _, hb1⟩ := uNum_suffix hb hN
    split at h
    · split at h
      · exact kind_nn hb1 h
      · exact kind_nn hb1 h
    · cases h
theorem RL.bound {p ns : List Int} (h : RL p ns) : ∀ v ∈ ns, 0 ≤ v ∧ v < 4611686018427387904 := by
  induction h with
  | nil => intro v hv; cases hv
  | cons h _ ih =>
    intro v hv
    rcases List.mem_cons.1 hv with rfl | hv
    · exact ⟨h.2.2.1, h.2.2.2.1⟩
    · exact ih v hv
theorem frame_w {K : Int} {fin : Bool} {s : List S47} {f : Nat → Int} {l d r : List Int} (hb : bytesOk l = true) (h : rFr l = some (K, f, fin, d, s, r)) (j : Nat) (h1 : 1 ≤ j) (h6 : j ≤ 6) : 0 ≤ f j ∧ f j < 4611686018427387904 := by
  obtain ⟨os, p, ho, _, hp, hc, _, _⟩ := frame_reads hb h
  obtain ⟨hbad, _⟩ := chk_parts ho hc
  by_cases hj : j ∈ os
  · refine hp.bound _ ?_
    unfold numsOf
    exact List.mem_append_left _ (List.mem_append_right _ (List.mem_map_of_mem hj))
  · rw [(bad_each hbad j h1 h6).1 hj]; omega
theorem nums_congr {K : Int} {fin : Bool} {os : List Nat} {f : Nat → Int} {s : List S47} {n : Nat} (hm : ∀ o ∈ os, 1 ≤ o ∧ o ≤ 6) : numsOf K fin os f s n = numsOf K fin os (gA (f 1) (f 2) (f 3) (f 4) (f 5) (f 6)) s n := by
  unfold numsOf
  congr 2
  refine List.map_congr_left fun o ho => ?_
  obtain ⟨h1, h6⟩ := hm o ho
  have : o = 1 ∨ o = 2 ∨ o = 3 ∨ o = 4 ∨ o = 5 ∨ o = 6 := by omega
  rcases this with rfl | rfl | rfl | rfl | rfl | rfl <;> rfl
/-- A frame that is cut is none. -/
theorem cut_none {K : Int} {fin : Bool} {s : List S47} {f : Nat → Int} {l d r : List Int} (hb : bytesOk l = true) (h : rFr l = some (K, f, fin, d, s, r)) (m : Nat) (hm : m < l.length - r.length) : rFr (l.take m) = none := by
  cases h2 : rFr (l.take m) with
  | none => rfl
  | some q =>
    exfalso
    obtain ⟨K2, f2, fin2, d2, s2, r2⟩ := q
    have hb2 : bytesOk (l.take m) = true := List.all_eq_true.2 fun x hx => List.all_eq_true.1 hb x (List.mem_of_mem_take hx)
    obtain ⟨os, p, ho, e, hp, hc, _, _⟩ := frame_reads hb2 h2
    obtain ⟨f3, e3, _⟩ := frame_back (r := r2 ++ l.drop m) ho hc (frame_nn hb2 h2) hp
    have el : p ++ (d2 ++ (r2 ++ l.drop m)) = l := by
      have := List.take_append_drop m l
      rw [e] at this
      simpa using this
    rw [el, h] at e3
    simp only [Option.some.injEq, Prod.mk.injEq] at e3
    have := congrArg List.length e3.2.2.2.2.2
    rw [List.length_append, List.length_drop] at this
    omega
/-- A frame's own bytes are no more than those that it was read of. -/
theorem enc_le {K : Int} {fin : Bool} {s : List S47} {f : Nat → Int} {l d r : List Int} (hb : bytesOk l = true) (h : rFr l = some (K, f, fin, d, s, r)) : (uEnc K (f 1) (f 2) (f 3) (f 4) (f 5) (f 6) fin d s).length + r.length ≤ l.length := by
  obtain ⟨os, p, ho, e, hp, hc, _, _⟩ := frame_reads hb h
  rw [enc_eq ho hc (frame_nn hb h), ← nums_congr (fOffs_mem ho).1]
  have := hp.len
  rw [e]
  simp only [List.length_append]
  omega
theorem encode_ok {k : Nat} {a0 a1 a2 a3 a4 a5 a6 : Int} {a7 : Bool} {l8 : List Int} {l9 : List S47} (W1 : W64 a1) (W2 : W64 a2) (W3 : W64 a3) (W4 : W64 a4) (W5 : W64 a5) (W6 : W64 a6) (h8 : l8.length < 1000000) (h9 : l9.length < 1000000) (hk : l9.length < k) (hc : uChk a0 a1 a2 a3 a4 a5 a6 a7 l8.length l9 = 0) :
    frame_Encode.f k a0 a1 a2 a3 a4 a5 a6 a7 l8 l9 = some (uEnc a0 a1 a2 a3 a4 a5 a6 a7 l8 l9, 0) := by
  obtain ⟨os, ho⟩ := chk_fOffs hc
  obtain ⟨_, hsp, hno, _⟩ := chk_parts ho hc
  have hl9 : l9.length ≤ 32 := by
    by_cases hk : a0 = 2 ∨ a0 = 3
    · have hok := hsp hk
      unfold spOk at hok
      simp only [Bool.and_eq_true, decide_eq_true_eq] at hok
      exact hok.1.2
    · rw [hno hk]; simp
  unfold frame_Encode.f
  rw [chk_eq W1 W2 W3 W4 W5 W6 h8 h9 hk, hc, Option.bind_some, if_pos rfl, if_pos hl9]
theorem chk_01 (a0 a1 a2 a3 a4 a5 a6 : Int) (a7 : Bool) (n : Nat) (l9 : List S47) : uChk a0 a1 a2 a3 a4 a5 a6 a7 n l9 = 0 ∨ uChk a0 a1 a2 a3 a4 a5 a6 a7 n l9 = 50 := by
  unfold uChk uTail
  repeat' split
  all_goals first | exact .inl rfl | exact .inr rfl
theorem encode_no {k : Nat} {a0 a1 a2 a3 a4 a5 a6 : Int} {a7 : Bool} {l8 : List Int} {l9 : List S47} (W1 : W64 a1) (W2 : W64 a2) (W3 : W64 a3) (W4 : W64 a4) (W5 : W64 a5) (W6 : W64 a6) (h8 : l8.length < 1000000) (h9 : l9.length < 1000000) (hk : l9.length < k) (hc : uChk a0 a1 a2 a3 a4 a5 a6 a7 l8.length l9 ≠ 0) :
    frame_Encode.f k a0 a1 a2 a3 a4 a5 a6 a7 l8 l9 = some ([], 50) := by
  unfold frame_Encode.f
  rw [chk_eq W1 W2 W3 W4 W5 W6 h8 h9 hk, Option.bind_some, if_neg hc]
  rcases chk_01 a0 a1 a2 a3 a4 a5 a6 a7 l8.length l9 with h | h
  · exact absurd h hc
  · rw [h]
theorem parse_f {l : List Int} (hb : bytesOk l = true) (hl : l.length < 1000000) : frame_Parse.f l = some (uParse l) := by
  unfold frame_Parse.f
  rw [if_pos ⟨hb, hl⟩]
theorem wq {x : Int} (h : 0 ≤ x ∧ x < 4611686018427387904) : W64 x := ⟨h.1, by omega⟩

end Go.Proofs.Ytphakdfholkbdaa
