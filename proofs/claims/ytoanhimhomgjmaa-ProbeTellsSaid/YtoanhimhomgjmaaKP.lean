/- Several texts of this claim in one: What the functions of layer 13 answer at numbers of 64 bits, in plain words. What parts of chapter 13 answer. Chapter 13, part by part. Chapter 13, part by part. Chapter 13, part by part. Rows of samples in memory. What the reference's PushMax makes of a row. -/
import Derived.Test.YtoanhimhomgjmaaKPPrNx10
import Derived.Deep.DeepMust
import Derived.Test.YtoanhimhomgjmaaKB
import Derived.Test.YtoanhimhomgjmaaKC
import Derived.Test.YtoanhimhomgjmaaKW
section
namespace Go.Proofs.Ytoanhimhomgjmaa.ProEq
set_option linter.unusedVariables false
open Go.RowKit Go.Proofs.Ytoanhimhomgjmaa.PPrN Go.Proofs.YtoanhimhomgjmaaW.PrintWords Go.Proofs.YtoanhimhomgjmaaW.PrintLast
theorem wrap64_is {x : Int} (h0 : 0 ≤ x) (h1 : x < 9223372036854775808) : wrap64 x = x := by unfold wrap64; omega
theorem wdiv {x : Int} (h : W64 x) (n : Int) (hn : 1 ≤ n) : IntKind.u64.wrap (Int.tdiv x n) = x / n := by
  rw [Int.tdiv_eq_ediv_of_nonneg h.1]
  have h1 := Int.ediv_nonneg h.1 (show (0 : Int) ≤ n by omega)
  have h2 := Int.ediv_le_self n h.1
  exact w64 (by omega)
theorem add_eq {a b : Int} (ha : W64 a) (hb : W64 b) : fix_Add.f a b = some (uAdd a b) := by unfold fix_Add.f; rw [if_pos ⟨ha, hb⟩]
theorem muldiv_eq {a b c : Int} (ha : W64 a) (hb : W64 b) (hc : W64 c) : fix_MulDivT.f a b c = some (uMulDiv a b c) := by unfold fix_MulDivT.f; rw [if_pos ⟨ha, hb, hc⟩]
theorem held_eq {a : Int} : reno_Held.f a = some (uHeld a) := rfl
def uGain (a b : Int) : Int := uMulDiv a b 256
theorem gain_eq {a b : Int} (ha : W64 a) (hb : W64 b) : fix_Gain.f a b = some (uGain a b) := by unfold fix_Gain.f; rw [muldiv_eq ha hb (by omega)]; rfl
def SWf (l : List S52) : Prop := ∀ x ∈ l, W64 x.f0 ∧ W64 x.f1
def uBest : List S52 → Int
  | [] => 0
  | x :: _ => x.f1
theorem best_eq (l : List S52) : filt_Best.f l = some (uBest l) := by
  cases l with
  | nil => rfl
  | cons x t =>
    unfold filt_Best.f
    have hl : ((x :: t).length : Int) = t.length + 1 := by simp
    rw [if_neg (by omega), if_pos (by omega)]
    rfl
theorem best_w {l : List S52} (h : SWf l) : W64 (uBest l) := by
  cases l with
  | nil => exact ⟨by decide, by decide⟩
  | cons x t => exact (h x (List.mem_cons_self ..)).2
def uProd (l : List S52) (mn parts : Int) : Int := if mn = 18446744073709551615 then 0 else uGain (uMulDiv (uBest l) mn 1000) parts
theorem prod_eq {a0 a2 a3 a4 a5 a6 a7 a8 a9 parts : Int} {l : List S52} (hl : SWf l) (hm : W64 a2) (hp : W64 parts) : probe_Product.f a0 l a2 a3 a4 a5 a6 a7 a8 a9 parts = some (uProd l a2 parts) := by
  unfold probe_Product.f uProd
  by_cases h : a2 = 18446744073709551615
  · rw [if_pos h, if_pos h]
  · rw [if_neg h, if_neg h, best_eq]
    simp only [Option.bind_some]
    rw [muldiv_eq (best_w hl) hm (by omega)]
    simp only [Option.bind_some]
    rw [gain_eq (uMulDiv_w (best_w hl) hm (by omega)) hp]
    rfl
def stays (win at_ v : Int) (x : S52) : Bool := decide (at_ ≤ uAdd x.f0 win) && decide (v < x.f1)
def uPush (l : List S52) (win at_ v : Int) : List S52 := l.filter (stays win at_ v) ++ [⟨at_, v⟩]
theorem kept_loop {l : List S52} (hl : SWf l) {win at_ v b0 b1 : Int} (hw : W64 win) (ha : W64 at_) (hv : W64 v) (hL : l.length < 1000000) : ∀ (d k i : Nat) (out : List S52), i + d = l.length → d < k → out.length + d < 8796093022208 → api_Sample_41.l0 k win (at_ * 18446744073709551616 + v) out l (l.length : Int) (i : Int) b0 b1 = some (out ++ (l.drop i).filter (stays win at_ v) ++ [⟨b0, b1⟩]) := by
  intro d
  induction d with
  | zero =>
    intro k i out hi hk ho
    obtain ⟨k, rfl⟩ : ∃ m, k = m + 1 := ⟨k - 1, by omega⟩
    simp only [api_Sample_41.l0]
    rw [if_neg (by omega), if_pos (by omega), List.drop_eq_nil_of_le (by omega)]
    simp
  | succ d ih =>
    intro k i out hi hk ho
    obtain ⟨k, rfl⟩ : ∃ m, k = m + 1 := ⟨k - 1, by omega⟩
    have hlt : i < l.length := by omega
    have hrd : rd_T52 l (i : Int) = l[i] := by unfold rd_T52; simp [List.getD_eq_getElem?_getD, hlt]
    have hmem := hl l[i] (List.getElem_mem hlt)
    have hol : out.length < 8796093022208 := by omega
    have c1 : (i : Int) < (l.length : Int) := by omega
    have c2 : (0 : Int) ≤ (i : Int) := by omega
    have hol2 : (out ++ [(⟨l[i].f0, l[i].f1⟩ : S52)]).length + d < 8796093022208 := by simp; omega
    have hi1 : i + 1 + d = l.length := by omega
    have hk1 : d < k := by omega
    have hod : out.length + d < 8796093022208 := by omega
    have hwr : wrap64 ((i : Int) + 1) = ((i + 1 : Nat) : Int) := by rw [wrap64_is (by omega) (by omega)]; simp
    have hP : filt_PushMax_1.f l[i].f0 l[i].f1 win (at_ * 18446744073709551616 + v) = some (stays win at_ v l[i]) := by
      unfold filt_PushMax_1.f stays
      rw [add_eq hmem.1 hw, show (at_ * 18446744073709551616 + v) / 18446744073709551616 = at_ by omega, show (at_ * 18446744073709551616 + v) % 18446744073709551616 = v by omega]
      rfl
    simp only [api_Sample_41.l0]
    rw [if_pos c1, if_pos c2, if_pos c1, hrd, hP, List.drop_eq_getElem_cons hlt, List.filter_cons, hwr]
    simp only [Option.bind_some]
    cases hb : stays win at_ v l[i] with
    | true =>
      rw [if_pos rfl, if_pos hol, ih k (i + 1) _ hi1 hk1 hol2]
      simp
    | false =>
      rw [if_neg (by simp), ih k (i + 1) _ hi1 hk1 hod]
      simp
theorem push_eq {l : List S52} (hl : SWf l) {win at_ v : Int} (hw : W64 win) (ha : W64 at_) (hv : W64 v) (hL : l.length < 1000000) {k : Nat} (hk : l.length < k) : filt_PushMax.f k l win at_ v = some (uPush l win at_ v) := by
  unfold filt_PushMax.f api_Sample_41.f
  rw [if_pos ⟨ha, hv⟩]
  have := kept_loop hl hw ha hv hL (b0 := at_) (b1 := v) l.length k 0 [] (by omega) hk (by simp; omega)
  simpa [uPush] using this
theorem uPush_wf {l : List S52} (hl : SWf l) {win at_ v : Int} (ha : W64 at_) (hv : W64 v) : SWf (uPush l win at_ v) := by
  intro x hx
  unfold uPush at hx
  rcases List.mem_append.1 hx with h | h
  · exact hl x ((List.mem_filter.1 h).1)
  · obtain rfl := List.mem_singleton.1 h
    exact ⟨ha, hv⟩
theorem uPush_len (l : List S52) (win at_ v : Int) : (uPush l win at_ v).length ≤ l.length + 1 := by
  unfold uPush
  have := List.length_filter_le (stays win at_ v) l
  simp; omega
theorem clone_eq {l : List S52} (hL : l.length < 1000000) : api_Sample_25.f l = some l := by
  unfold api_Sample_25.f
  simp only [Option.bind_some]
  rw [if_pos (by simp; omega)]
  simp
abbrev T10 := Int × List S52 × Int × Int × Int × Int × Int × Int × Int × Int
def pMove (st : Int) (l : List S52) (mn mat full still rounds phase since high now flight : Int) (lim round stale : Bool) : T10 :=
  if st = 0 then
    if round = true ∧ lim = false then
      if uBest l > 0 ∧ uBest l ≥ uAdd full (full / 4) then (st, l, mn, mat, uBest l, 0, rounds, phase, since, high)
      else if uAdd still 1 = 3 then (1, l, mn, mat, full, uAdd still 1, rounds, phase, since, high) else (st, l, mn, mat, full, uAdd still 1, rounds, phase, since, high)
    else (st, l, mn, mat, full, still, rounds, phase, since, high)
  else if st = 1 then
    if flight ≤ uProd l mn 256 then (2, l, mn, mat, full, still, rounds, 0, now, high) else (st, l, mn, mat, full, still, rounds, phase, since, high)
  else if st = 2 then
    if stale = true then (3, l, mn, mat, full, still, rounds, phase, now, high)
    else if now ≥ uAdd since mn then (2, l, mn, mat, full, still, rounds, uAdd phase 1, now, high) else (st, l, mn, mat, full, still, rounds, phase, since, high)
  else if st = 3 then
    if now ≥ uAdd since 200 then (2, l, mn, mat, full, still, rounds, 2, now, high) else (st, l, mn, mat, full, still, rounds, phase, since, high)
  else (st, l, mn, mat, full, still, rounds, phase, since, high)
theorem j9_eq (k : Nat) {st mn mat full still rounds phase since high now x1 x2 x3 x4 took flight rate : Int} {l : List S52} {lim round : Bool} (hp : W64 phase) (hs : W64 since) (c : Bool) : probe_Ack.j9 (k + 1) c st l mn mat full still rounds phase since high now x1 x2 x3 x4 took flight rate lim round = some (if c = true then (2, l, mn, mat, full, still, rounds, uAdd phase 1, now, high) else if st = 3 then if now ≥ uAdd since 200 then (2, l, mn, mat, full, still, rounds, 2, now, high) else (st, l, mn, mat, full, still, rounds, phase, since, high) else (st, l, mn, mat, full, still, rounds, phase, since, high)) := by
  simp only [probe_Ack.j9]
  rw [add_eq hp (by omega), add_eq hs (by omega)]
  simp only [Option.bind_some, probe_Ack_1.f]
  cases c
  · simp only [Bool.false_eq_true, if_false]
    split
    · split <;> rfl
    · rfl
  · simp only [if_true]
theorem j8_eq (k : Nat) {st mn mat full still rounds phase since high now x1 x2 x3 x4 took flight rate : Int} {l : List S52} {lim round : Bool} (hp : W64 phase) (hs : W64 since) (hm : W64 mn) (c : Bool) : probe_Ack.j8 (k + 2) c st l mn mat full still rounds phase since high now x1 x2 x3 x4 took flight rate lim round = some (if c = true then (3, l, mn, mat, full, still, rounds, phase, now, high) else if st = 2 then if now ≥ uAdd since mn then (2, l, mn, mat, full, still, rounds, uAdd phase 1, now, high) else (st, l, mn, mat, full, still, rounds, phase, since, high) else if st = 3 then if now ≥ uAdd since 200 then (2, l, mn, mat, full, still, rounds, 2, now, high) else (st, l, mn, mat, full, still, rounds, phase, since, high) else (st, l, mn, mat, full, still, rounds, phase, since, high)) := by
  simp only [probe_Ack.j8]
  rw [add_eq hs hm]
  simp only [Option.bind_some, probe_Ack_1.f]
  rw [j9_eq k hp hs, j9_eq k hp hs]
  cases c
  · simp only [Bool.false_eq_true, if_false]
    by_cases h2 : st = 2
    · rw [if_pos h2, if_pos h2]
      subst h2
      by_cases h : now ≥ uAdd since mn
      · simp [h]
      · simp [h]
    · rw [if_neg h2, if_neg h2]
  · simp only [if_true]
theorem move_eq (k : Nat) {st mn mat full still rounds phase since high now x1 x2 x3 x4 took flight rate : Int} {l : List S52} {lim round : Bool} (hl : SWf l) (hp : W64 phase) (hs : W64 since) (hm : W64 mn) (hf : W64 full) (ht : W64 still) (c : Bool) : probe_Ack.j4 (k + 6) c st l mn mat full still rounds phase since high now x1 x2 x3 x4 took flight rate lim round = some (pMove st l mn mat full still rounds phase since high now flight lim round c) := by
  have j7 : ∀ (q s : Bool), probe_Ack.j7 (k + 3) q s st l mn mat full still rounds phase since high now x1 x2 x3 x4 took flight rate lim round = some (if s = true then (2, l, mn, mat, full, still, rounds, 0, now, high) else if st = 2 then (if q = true then (3, l, mn, mat, full, still, rounds, phase, now, high) else if now ≥ uAdd since mn then (2, l, mn, mat, full, still, rounds, uAdd phase 1, now, high) else (st, l, mn, mat, full, still, rounds, phase, since, high)) else if st = 3 then if now ≥ uAdd since 200 then (2, l, mn, mat, full, still, rounds, 2, now, high) else (st, l, mn, mat, full, still, rounds, phase, since, high) else (st, l, mn, mat, full, still, rounds, phase, since, high)) := by
    intro q s
    simp only [probe_Ack.j7]
    rw [j8_eq k hp hs hm, j8_eq k hp hs hm]
    simp only [Option.bind_some, probe_Ack_1.f]
    cases s
    · simp only [Bool.false_eq_true, if_false]
      by_cases h2 : st = 2
      · simp only [if_pos h2]
      · simp only [if_neg h2]
    · simp only [if_true]
  unfold pMove
  simp only [probe_Ack.j4, probe_Ack.j5, probe_Ack.j6, best_eq, Option.bind_some, j7]
  rw [add_eq hf (by rw [wdiv hf 4 (by omega)]; omega), wdiv hf 4 (by omega), add_eq ht (by omega), prod_eq hl hm (by omega)]
  simp only [Option.bind_some]
  by_cases h0 : st = 0
  · subst h0
    cases round
    · simp
    · cases lim
      · by_cases hb : uBest l > 0
        · by_cases hb2 : uBest l ≥ uAdd full (full / 4)
          · simp [hb, hb2]
          · simp [hb, hb2]; split <;> rfl
        · simp [hb]; split <;> rfl
      · simp
  · by_cases h1 : st = 1
    · subst h1
      by_cases h : flight ≤ uProd l mn 256 <;> simp [h]
    · by_cases h2 : st = 2
      · subst h2
        simp
      · simp [h0, h1, h2]
def pAck (st : Int) (l : List S52) (mn mat full still rounds phase since high now took flight rate : Int) (lim round : Bool) : T10 :=
  let rounds' := if round = true then uAdd rounds 1 else rounds
  let high' := if round = true then uHeld (uAdd high (high / 8)) else high
  let l' := if lim = false ∨ rate ≥ uBest l then uPush l 10 rounds' rate else l
  let stale := decide (now ≥ uAdd mat 10000)
  let mn' := if stale = true ∨ took < mn then took else mn
  let mat' := if stale = true ∨ took < mn then now else mat
  pMove st l' mn' mat' full still rounds' phase since high' now flight lim round stale
theorem ack_eq {k : Nat} {st mn mat full still rounds phase since high now x1 x2 x3 x4 took flight rate : Int} {l : List S52} {lim round : Bool} (hl : SWf l) (hL : l.length < 1000000) (hk : l.length + 10 < k) (hp : W64 phase) (hs : W64 since) (hm : W64 mn) (hmat : W64 mat) (hf : W64 full) (ht : W64 still) (hr : W64 rounds) (hh : W64 high) (hrate : W64 rate) (htook : W64 took) :
    probe_Ack.f k st l mn mat full still rounds phase since high now x1 x2 x3 x4 took flight rate lim round = some (pAck st l mn mat full still rounds phase since high now took flight rate lim round) := by
  obtain ⟨k, rfl⟩ : ∃ m, k = m + 10 := ⟨k - 10, by omega⟩
  have h8 := wdiv hh 8 (by omega)
  have j2 : ∀ (l : List S52) (rounds high : Int), SWf l → probe_Ack.j2 (k + 8) st l mn mat full still rounds phase since high now x1 x2 x3 x4 took flight rate lim round = some (pMove st l (if decide (now ≥ uAdd mat 10000) = true ∨ took < mn then took else mn) (if decide (now ≥ uAdd mat 10000) = true ∨ took < mn then now else mat) full still rounds phase since high now flight lim round (decide (now ≥ uAdd mat 10000))) := by
    intro l rounds high hl
    simp only [probe_Ack.j2, probe_Ack.j3]
    rw [add_eq hmat (by omega)]
    simp only [Option.bind_some]
    by_cases h : now ≥ uAdd mat 10000
    · simp only [h, decide_true, if_true, true_or]
      rw [move_eq k hl hp hs htook hf ht]
    · simp only [h, decide_false, if_false, Bool.false_eq_true, false_or]
      by_cases h2 : took < mn
      · simp only [h2, decide_true, if_true]
        rw [move_eq k hl hp hs htook hf ht]
      · simp only [h2, decide_false, if_false, Bool.false_eq_true]
        rw [move_eq k hl hp hs hm hf ht]
  have j0 : ∀ (rounds high : Int), W64 rounds → probe_Ack.j0 (k + 10) st l mn mat full still rounds phase since high now x1 x2 x3 x4 took flight rate lim round = some (pMove st (if lim = false ∨ rate ≥ uBest l then uPush l 10 rounds rate else l) (if decide (now ≥ uAdd mat 10000) = true ∨ took < mn then took else mn) (if decide (now ≥ uAdd mat 10000) = true ∨ took < mn then now else mat) full still rounds phase since high now flight lim round (decide (now ≥ uAdd mat 10000))) := by
    intro rounds high hr
    simp only [probe_Ack.j0, probe_Ack.j1, best_eq, Option.bind_some]
    rw [push_eq hl (by omega) hr hrate hL (by omega)]
    simp only [Option.bind_some]
    rw [j2 _ _ _ hl, j2 _ _ _ (uPush_wf hl hr hrate)]
    cases lim
    · simp
    · by_cases h : rate ≥ uBest l
      · simp [h]
      · simp [h]
  unfold probe_Ack.f pAck
  rw [clone_eq hL, h8]
  simp only [Option.bind_some]
  rw [add_eq hr (by omega), add_eq hh (by omega)]
  simp only [Option.bind_some, held_eq]
  rw [j0 _ _ hr, j0 _ _ (uAdd_w hr (by omega))]
  cases round <;> simp
end Go.Proofs.Ytoanhimhomgjmaa.ProEq
end
section
namespace Go.Proofs.Ytoanhimhomgjmaa.PPrN
open Go.RowKit Go.Proofs.Ytoanhimhomgjmaa.ProEq Go.Proofs.YtoanhimhomgjmaaW.PrintWords Go.Proofs.YtoanhimhomgjmaaW.PrintLast Go.Proofs.YtoanhimhomgjmaaW.PrintMore
set_option linter.unusedVariables false
set_option linter.unusedSimpArgs false
set_option maxRecDepth 100000
set_option maxHeartbeats 8000000
theorem emod_le_ {x n : Int} (h : 0 ≤ x) (hn : 0 < n) : x % n ≤ x := by
 obtain ⟨m, rfl⟩ := Int.eq_ofNat_of_zero_le h
 obtain ⟨k, rfl⟩ := Int.eq_ofNat_of_zero_le (show 0 ≤ n by omega)
 exact Int.ofNat_le.2 (Nat.mod_le m k)
theorem wdiv {x : Int} (h : W64 x) (n : Int) (hn : 1 ≤ n) : IntKind.u64.wrap (Int.tdiv x n) = x / n := by
 rw [Int.tdiv_eq_ediv_of_nonneg h.1]
 have h1 := Int.ediv_nonneg h.1 (show (0 : Int) ≤ n by omega)
 have h2 := Int.ediv_le_self n h.1
 exact w64 (by omega)
theorem div_w {x : Int} (h : W64 x) (n : Int) (hn : 1 ≤ n) : W64 (x / n) := by
 have h1 := Int.ediv_nonneg h.1 (show (0 : Int) ≤ n by omega)
 have h2 := Int.ediv_le_self n h.1
 omega
theorem wmod {x : Int} (h : W64 x) (n : Int) (hn : 1 ≤ n) : IntKind.u64.wrap (Int.tmod x n) = x % n := by
 rw [Int.tmod_eq_emod_of_nonneg h.1]
 have h1 := Int.emod_nonneg x (show n ≠ 0 by omega)
 have h2 := emod_le_ h.1 (show 0 < n by omega)
 exact w64 (by omega)
theorem le_of_lt' {a b : Int} (h : decide (a < b) = true) : decide (b ≤ a) = false := by simp at *; omega
theorem zA_ {α : Type} {l : List α} {i : Nat} {a : α} : l.toArray.setIfInBounds i a = (l.set i a).toArray := List.setIfInBounds_toArray ..
theorem z0_ {α : Type} {x a : α} {l : List α} : (x :: l).set 0 a = a :: l := List.set_cons_zero ..
theorem z1_ {α : Type} {n : Nat} {x a : α} {l : List α} : (x :: l).set (n + 1) a = x :: l.set n a := List.set_cons_succ ..
theorem rbestC (p0 p2 p3 p4 p5 p6 p7 p8 p9 : Int) (A1 : Option Addr) (k1 : Nat) (l1 : List S52) (w : World) (hr1 : Kd.C k52 w A1 l1.length l1) (hk1 : l1.length ≤ k1) :
  Calls Try.prog 32 #[.agg #[.int .i64 p0, .slice A1 l1.length k1, .int .u64 p2, .int .u64 p3, .int .u64 p4, .int .u64 p5, .int .u64 p6, .int .u64 p7, .int .u64 p8, .int .u64 p9]] w fun e w' => e = .returned (.int .u64 (uBest l1)) ∧ Below w.heap.size w w' :=
 wigwagref13_best.calls p0 A1 k1 l1 p2 p3 p4 p5 p6 p7 p8 p9 _ w hr1 hk1 (by unfold wigwagref13_best.f; show (filt_Best.f l1).bind _ = _; rw [best_eq]; rfl)
theorem rgainC (a b : Int) (ha : W64 a) (hb : W64 b) (w : World) : Calls Try.prog 38 #[.int .u64 a, .int .u64 b] w fun e w' => e = .returned (.int .u64 (uGain a b)) ∧ Below w.heap.size w w' := by
 refine (wigwagref01_Gain.calls a b (uGain a b) w (by unfold wigwagref01_Gain.f wigwagref01_MulDivT.f; rw [if_pos ⟨ha, hb, by omega⟩]; rfl)).mono ?_
 intro e w' h
 first | exact h | exact ⟨h.1, h.2.below⟩ | (obtain ⟨h, nd, rfl⟩ := h; exact ⟨h, pw_below_drewN (Below.refl _ _) _⟩)
theorem prodC (p0 p2 p3 p4 p5 p6 p7 p8 p9 : Int) (x : Int) (A1 : Option Addr) (k1 : Nat) (l1 : List S52) (hw1 : SWf l1) (h2 : W64 p2) (hx : W64 x) (w : World) (hr1 : Kd.C k52 w A1 l1.length l1) (hk1 : l1.length ≤ k1) :
  Calls Try.prog 17 #[.agg #[.int .i64 p0, .slice A1 l1.length k1, .int .u64 p2, .int .u64 p3, .int .u64 p4, .int .u64 p5, .int .u64 p6, .int .u64 p7, .int .u64 p8, .int .u64 p9], .int .u64 x] w fun e w' => e = .returned (.int .u64 (uProd l1 p2 x)) ∧ Below w.heap.size w w' :=
 probe_Product.calls p0 A1 k1 l1 p2 p3 p4 p5 p6 p7 p8 p9 x _ w hr1 hk1 (prod_eq hw1 h2 hx)
theorem rprod_0 (p0 p2 p3 p4 p5 p6 p7 p8 p9 x_ : Int) (A1 : Option Addr) (k1 : Nat)  (w : World) (l1 : List S52) (hr1 : Kd.C k52 w A1 l1.length l1) (hk1 : l1.length ≤ k1) (hw1 : SWf l1) (h0 : (p2 == 18446744073709551615) = true) :
  Calls Try.prog 18 #[.agg #[.int .i64 p0, .slice A1 l1.length k1, .int .u64 p2, .int .u64 p3, .int .u64 p4, .int .u64 p5, .int .u64 p6, .int .u64 p7, .int .u64 p8, .int .u64 p9], .int .u64 x_] w fun e w' => e = .returned (.int .u64 0) ∧ Below w.heap.size w w' := by
 have hu26 := Try.underlying26
 have HS := Since.refl w
 go_enter Try.func18, Try.ntmps18
 go_wp2_with (first | (refine seg_new rfl (N := 2) rfl [.int .i64 p0, .slice A1 l1.length k1, .int .u64 p2, .int .u64 p3, .int .u64 p4, .int .u64 p5, .int .u64 p6, .int .u64 p7, .int .u64 p8, .int .u64 p9] 26 ?hr ?_; (case hr => rfl); intro g0 hg w1 hn hl; have GEg0 := ge_new HS hg; clear hg; replace HS := HS.below hl; have Bg0 := hn; clear hl hn; have kg0_2 := Bg0.at 2 rfl))
 all_goals (go_ret; exact ⟨rfl, HS.out⟩)
theorem rprod_1 (p0 p2 p3 p4 p5 p6 p7 p8 p9 x_ : Int) (A1 : Option Addr) (k1 : Nat) (Wp2 : W64 p2) (Wx_ : W64 x_) (w : World) (l1 : List S52) (hr1 : Kd.C k52 w A1 l1.length l1) (hk1 : l1.length ≤ k1) (hw1 : SWf l1) (h0 : (p2 == 18446744073709551615) = false) :
  Calls Try.prog 18 #[.agg #[.int .i64 p0, .slice A1 l1.length k1, .int .u64 p2, .int .u64 p3, .int .u64 p4, .int .u64 p5, .int .u64 p6, .int .u64 p7, .int .u64 p8, .int .u64 p9], .int .u64 x_] w fun e w' => e = .returned (.int .u64 (uGain (uMulDiv (uBest l1) p2 1000) x_)) ∧ Below w.heap.size w w' := by
 have hu26 := Try.underlying26
 have HS := Since.refl w
 go_enter Try.func18, Try.ntmps18
 go_wp2_with (first | (refine seg_new rfl (N := 2) rfl [.int .i64 p0, .slice A1 l1.length k1, .int .u64 p2, .int .u64 p3, .int .u64 p4, .int .u64 p5, .int .u64 p6, .int .u64 p7, .int .u64 p8, .int .u64 p9] 26 ?hr ?_; (case hr => rfl); intro g0 hg w1 hn hl; have GEg0 := ge_new HS hg; clear hg; replace HS := HS.below hl; have Bg0 := hn; clear hl hn; have kg0_2 := Bg0.at 2 rfl))
 refine start_ (n := 8) (S := fun w' => Blk w' g0 26 [.int .i64 p0, .slice A1 l1.length k1, .int .u64 p2, .int .u64 p3, .int .u64 p4, .int .u64 p5, .int .u64 p6, .int .u64 p7, .int .u64 p8, .int .u64 p9] ∧ w'.cell? ⟨g0, 2, none⟩ = some (.int .u64 p2)) (ds := []) (bs 8 0) (by kernel_rfl) rfl rfl ⟨Bg0.drew, ((Bg0.drew.cell 2).trans rfl)⟩ (fun hHeld => ?_)
 generalize hWd : World.drew w1 = w2 at hHeld ⊢
 have hl : Below w1.heap.size w1 w2 := (by rw [← hWd]; exact below_drew1 (Below.refl _ _))
 clear hWd
 replace Bg0 := Bg0.below hl; replace HS := HS.below hl; clear hl; replace kg0_2 := Bg0.at 2 rfl
 refine pu 2 10 (.pointer (some ⟨g0, 2, none⟩)) 4 rfl rfl (by kernel_rfl) (fun _ _ _ h => h) (by rfl) (fun _ => by kernel_rfl) rfl ?_
 refine pu 5 13 (.int .u64 x_) 36 rfl rfl (by kernel_rfl) (fun _ _ _ h => h) (by rfl) (fun _ => by kernel_rfl) rfl ?_
 refine norm_ (a' := ?_) ?_ ?_
 rotate_left
 ·simp only [Act.put, zA_, z0_, z1_, i64_w, i32_w]
  rfl
 refine take_ (i := 0) (N := some 8) (v := .agg #[.int .i64 p0, .slice A1 l1.length k1, .int .u64 p2, .int .u64 p3, .int .u64 p4, .int .u64 p5, .int .u64 p6, .int .u64 p7, .int .u64 p8, .int .u64 p9]) (a' := ?_) (bs 8 37) rfl rfl (by kernel_rfl) (fun _ _ _ h => h) (Or.inl ⟨by rfl, ?_⟩) hHeld ?_ ?_
 ·rintro w' ⟨s0, s1⟩
  exact exec_seg_load 26 (.tmp 2) (by rfl) g0 0 [.int .i64 p0, .slice A1 l1.length k1, .int .u64 p2, .int .u64 p3, .int .u64 p4, .int .u64 p5, .int .u64 p6, .int .u64 p7, .int .u64 p8, .int .u64 p9] (by rfl) s0 (by rfl) Try.underlying26 (by rfl) (by kernel_rfl)
 rotate_left
 ·simp only [Act.put, zA_, z0_, z1_, i64_w, i32_w]
  rfl
 refine take_ (i := 3) (N := some 11) (v := ?_) (a' := ?_) (bs 8 45) rfl rfl (by kernel_rfl) (fun _ _ _ h => h) (Or.inl ⟨by rfl, ?_⟩) hHeld ?_ ?_
 rotate_left
 ·rintro w' ⟨s0, s1⟩
  go_simp
  with_reducible rfl
 rotate_left
 ·simp only [Act.put, zA_, z0_, z1_, i64_w, i32_w]
  rfl
 refine one_ (i := 1) (N := some 9) (bs 8 47) rfl rfl (by kernel_rfl) (by decide) (fun K hK => ?_)
 refine goes_ Try.func32 (by kernel_rfl) rfl #[.agg #[.int .i64 p0, .slice A1 l1.length k1, .int .u64 p2, .int .u64 p3, .int .u64 p4, .int .u64 p5, .int .u64 p6, .int .u64 p7, .int .u64 p8, .int .u64 p9]] (by rfl) rfl rfl (by simp only [List.map_toArray, List.map_cons, List.map_nil]; rfl) ?_
 with_reducible refine (rbestC p0 p2 p3 p4 p5 p6 p7 p8 p9 A1 k1 l1 _ (Kd.C_below hr1 HS.out) hk1).mono ?_
 rintro e w3 ⟨rfl, hl⟩
 refine ⟨_, rfl, ?_⟩
 replace Bg0 := Bg0.below hl; replace HS := HS.below hl; clear hl; replace kg0_2 := Bg0.at 2 rfl
 refine hK.out _ _ ⟨Bg0, ((Bg0.cell 2).trans rfl)⟩ (fun hHeld => ?_)
 clear hK K
 refine norm_ (a' := ?_) ?_ ?_
 rotate_left
 ·show Act.put _ (some 9) _ = _
  simp only [Act.put, zA_, z0_, z1_, i64_w, i32_w]
  rfl
 refine one_ (i := 4) (N := some 12) (bs 8 63) rfl rfl (by kernel_rfl) (by decide) (fun K hK => ?_)
 refine goes_ Try.func36 (by kernel_rfl) rfl #[.int .u64 (uBest l1), .int .u64 p2, .int .u64 1000] (by rfl) rfl rfl (by simp only [List.map_toArray, List.map_cons, List.map_nil]; rfl) ?_
 with_reducible refine (wigwagref01_MulDivT.C (uBest l1) p2 1000 (best_w hw1) Wp2 (by decide) _).mono ?_
 rintro e w4 ⟨rfl, hd⟩
 refine ⟨_, rfl, ?_⟩
 have hl := hd.below
 clear hd
 replace Bg0 := Bg0.below hl; replace HS := HS.below hl; clear hl; replace kg0_2 := Bg0.at 2 rfl
 refine hK.out _ _ ⟨Bg0, ((Bg0.cell 2).trans rfl)⟩ (fun hHeld => ?_)
 clear hK K
 refine norm_ (a' := ?_) ?_ ?_
 rotate_left
 ·show Act.put _ (some 12) _ = _
  simp only [Act.put, zA_, z0_, z1_, i64_w, i32_w]
  rfl
 refine one_ (i := 6) (N := some 14) (bs 8 127) rfl rfl (by kernel_rfl) (by decide) (fun K hK => ?_)
 refine goes_ Try.func38 (by kernel_rfl) rfl #[.int .u64 (uMulDiv (uBest l1) p2 1000), .int .u64 x_] (by rfl) rfl rfl (by simp only [List.map_toArray, List.map_cons, List.map_nil]; rfl) ?_
 with_reducible refine (rgainC (uMulDiv (uBest l1) p2 1000) x_ (uMulDiv_w (best_w hw1) Wp2 (by decide)) Wx_ _).mono ?_
 rintro e w5 ⟨rfl, hl⟩
 refine ⟨_, rfl, ?_⟩
 replace Bg0 := Bg0.below hl; replace HS := HS.below hl; clear hl; replace kg0_2 := Bg0.at 2 rfl
 refine hK.out _ _ ⟨Bg0, ((Bg0.cell 2).trans rfl)⟩ (fun hHeld => ?_)
 clear hK K
 refine norm_ (a' := ?_) ?_ ?_
 rotate_left
 ·show Act.put _ (some 14) _ = _
  simp only [Act.put, zA_, z0_, z1_, i64_w, i32_w]
  rfl
 refine pure_ (i := 7) (N := some 4) (v := ?_) (a' := ?_) (bs 8 255) rfl rfl (by kernel_rfl) (fun _ _ _ h => h) (Or.inl ⟨by rfl, ?_⟩) ?_ ?_
 rotate_left
 ·intro w'
  go_simp
  with_reducible rfl
 rotate_left
 ·simp only [Act.put, zA_, z0_, z1_, i64_w, i32_w]
  rfl
 refine done_ (by kernel_rfl) ?_
 clear kg0_2
 go_wp2
 all_goals (go_ret; exact ⟨rfl, HS.out⟩)
theorem rprodC (p0 p2 p3 p4 p5 p6 p7 p8 p9 : Int) (x_ : Int) (A1 : Option Addr) (k1 : Nat) (l1 : List S52) (hw1 : SWf l1) (W2 : W64 p2) (Wx : W64 x_) (w : World) (hr1 : Kd.C k52 w A1 l1.length l1) (hk1 : l1.length ≤ k1) :
  Calls Try.prog 18 #[.agg #[.int .i64 p0, .slice A1 l1.length k1, .int .u64 p2, .int .u64 p3, .int .u64 p4, .int .u64 p5, .int .u64 p6, .int .u64 p7, .int .u64 p8, .int .u64 p9], .int .u64 x_] w fun e w' => e = .returned (.int .u64 (uProd l1 p2 x_)) ∧ Below w.heap.size w w' := by
 by_cases e1 : p2 = 18446744073709551615
 ·have f1 : (p2 == 18446744073709551615) = true := (by simpa using e1)
  refine (rprod_0 p0 p2 p3 p4 p5 p6 p7 p8 p9 x_ A1 k1 w l1 hr1 hk1 hw1 f1).mono ?_
  rintro e w' ⟨rfl, hb⟩
  refine ⟨?_, hb⟩
  simp [uProd, e1]
 ·have f1 : (p2 == 18446744073709551615) = false := (by simpa using e1)
  refine (rprod_1 p0 p2 p3 p4 p5 p6 p7 p8 p9 x_ A1 k1 W2 Wx w l1 hr1 hk1 hw1 f1).mono ?_
  rintro e w' ⟨rfl, hb⟩
  refine ⟨?_, hb⟩
  simp [uProd, e1]
def pStart (st : Int) (l : List S52) (full still : Int) (lim round : Bool) : Int × Int × Int :=
 if round = true ∧ lim = false then
  if uBest l > 0 ∧ uBest l ≥ uAdd full (full / 4) then (st, uBest l, 0)
  else if uAdd still 1 = 3 then (1, full, uAdd still 1) else (st, full, uAdd still 1)
 else (st, full, still)
theorem rstart_0 (p0 p2 p3 p4 p5 p6 p7 p8 p9 g_0 g_1 g_2 g_3 g_4 g_5 g_6 g_7 : Int) (A1 : Option Addr) (k1 : Nat)  (w : World) (l1 : List S52) (hr1 : Kd.C k52 w A1 l1.length l1) (hk1 : l1.length ≤ k1) (hw1 : SWf l1) :
  Calls Try.prog 45 #[.agg #[.int .i64 p0, .slice A1 l1.length k1, .int .u64 p2, .int .u64 p3, .int .u64 p4, .int .u64 p5, .int .u64 p6, .int .u64 p7, .int .u64 p8, .int .u64 p9], .agg #[.int .u64 g_0, .int .u64 g_1, .int .u64 g_2, .int .u64 g_3, .int .u64 g_4, .int .u64 g_5, .int .u64 g_6, .int .u64 g_7, .bool true, .bool true]] w fun e w' => e = .returned (.agg #[.int .i64 p0, .slice A1 l1.length k1, .int .u64 p2, .int .u64 p3, .int .u64 p4, .int .u64 p5, .int .u64 p6, .int .u64 p7, .int .u64 p8, .int .u64 p9]) ∧ Below w.heap.size w w' := by
 have hu26 := Try.underlying26
 have hu28 := Try.underlying28
 have HS := Since.refl w
 go_enter Try.func45, Try.ntmps45
 go_wp2_with (first | (refine seg_new rfl (N := 2) rfl [.int .i64 p0, .slice A1 l1.length k1, .int .u64 p2, .int .u64 p3, .int .u64 p4, .int .u64 p5, .int .u64 p6, .int .u64 p7, .int .u64 p8, .int .u64 p9] 26 ?hr ?_; (case hr => rfl); intro g0 hg w1 hn hl; have GEg0 := ge_new HS hg; clear hg; replace HS := HS.below hl; have Bg0 := hn; clear hl hn) | (refine seg_new rfl (N := 3) rfl [.int .u64 g_0, .int .u64 g_1, .int .u64 g_2, .int .u64 g_3, .int .u64 g_4, .int .u64 g_5, .int .u64 g_6, .int .u64 g_7, .bool true, .bool true] 28 ?hr ?_; (case hr => rfl); intro g1 hg w2 hn hl; have Ng1_g0 := ne_new Bg0 hg; have GEg1 := ge_new HS hg; clear hg; replace Bg0 := Bg0.below hl; replace HS := HS.below hl; have Bg1 := hn; clear hl hn) | (refine seg_new rfl (N := 4) rfl [.int .i64 0, .slice none 0 0, .int .u64 0, .int .u64 0, .int .u64 0, .int .u64 0, .int .u64 0, .int .u64 0, .int .u64 0, .int .u64 0] 26 ?hr ?_; (case hr => rfl); intro g2 hg w3 hn hl; have Ng2_g0 := ne_new Bg0 hg; have Ng2_g1 := ne_new Bg1 hg; have GEg2 := ge_new HS hg; clear hg; replace Bg0 := Bg0.below hl; replace Bg1 := Bg1.below hl; replace HS := HS.below hl; have Bg2 := hn; clear hl hn; have kg1_8 := Bg1.at 8 rfl; have kg1_9 := Bg1.at 9 rfl) | (refine seg_load rfl (N := 13) rfl 26 (.tmp 2) rfl g0 0 [.int .i64 p0, .slice A1 l1.length k1, .int .u64 p2, .int .u64 p3, .int .u64 p4, .int .u64 p5, .int .u64 p6, .int .u64 p7, .int .u64 p8, .int .u64 p9] rfl Bg0 rfl Try.underlying26 rfl (by kernel_rfl) ?_) | (refine seg_store rfl rfl 26 (.tmp 4) (.tmp 13) rfl g2 0 [.int .i64 p0, .slice A1 l1.length k1, .int .u64 p2, .int .u64 p3, .int .u64 p4, .int .u64 p5, .int .u64 p6, .int .u64 p7, .int .u64 p8, .int .u64 p9] [.int .i64 p0, .slice A1 l1.length k1, .int .u64 p2, .int .u64 p3, .int .u64 p4, .int .u64 p5, .int .u64 p6, .int .u64 p7, .int .u64 p8, .int .u64 p9] (.agg #[.int .i64 p0, .slice A1 l1.length k1, .int .u64 p2, .int .u64 p3, .int .u64 p4, .int .u64 p5, .int .u64 p6, .int .u64 p7, .int .u64 p8, .int .u64 p9]) rfl rfl rfl Bg2 (by kernel_rfl) (nle rfl) rfl rfl ?_; intro w4 hn hw; replace Bg0 := Bg0.grown hw Ng2_g0.symm; replace Bg1 := Bg1.grown hw Ng2_g1.symm; replace HS := HS.grown hw GEg2; replace Bg2 := hn; clear hw; clear kg1_8 kg1_9; clear hn))
 all_goals exact bodyPost_ret (results_cell1 rfl _ _ g2 26 [.int .i64 p0, .slice A1 l1.length k1, .int .u64 p2, .int .u64 p3, .int .u64 p4, .int .u64 p5, .int .u64 p6, .int .u64 p7, .int .u64 p8, .int .u64 p9] _ rfl Bg2 Try.underlying26 rfl (by kernel_rfl)) rfl ⟨rfl, HS.out⟩
theorem rstart_1 (p0 p2 p3 p4 p5 p6 p7 p8 p9 g_0 g_1 g_2 g_3 g_4 g_5 g_6 g_7 : Int) (A1 : Option Addr) (k1 : Nat) (Wp4 : W64 p4) (w : World) (l1 : List S52) (hr1 : Kd.C k52 w A1 l1.length l1) (hk1 : l1.length ≤ k1) (hw1 : SWf l1) (h0 : (decide (uAdd p4 (p4 / 4) ≤ uBest l1)) = true) (h1 : (decide (0 < uBest l1)) = true) :
  Calls Try.prog 45 #[.agg #[.int .i64 p0, .slice A1 l1.length k1, .int .u64 p2, .int .u64 p3, .int .u64 p4, .int .u64 p5, .int .u64 p6, .int .u64 p7, .int .u64 p8, .int .u64 p9], .agg #[.int .u64 g_0, .int .u64 g_1, .int .u64 g_2, .int .u64 g_3, .int .u64 g_4, .int .u64 g_5, .int .u64 g_6, .int .u64 g_7, .bool false, .bool true]] w fun e w' => e = .returned (.agg #[.int .i64 p0, .slice A1 l1.length k1, .int .u64 p2, .int .u64 p3, .int .u64 (uBest l1), .int .u64 0, .int .u64 p6, .int .u64 p7, .int .u64 p8, .int .u64 p9]) ∧ Below w.heap.size w w' := by
 have hu26 := Try.underlying26
 have hu28 := Try.underlying28
 have q0 : IntKind.u64.wrap (Int.tdiv p4 4) = p4 / 4 := wdiv Wp4 4 (by decide)
 have HS := Since.refl w
 go_enter Try.func45, Try.ntmps45
 go_wp2_with (first | (refine seg_new rfl (N := 2) rfl [.int .i64 p0, .slice A1 l1.length k1, .int .u64 p2, .int .u64 p3, .int .u64 p4, .int .u64 p5, .int .u64 p6, .int .u64 p7, .int .u64 p8, .int .u64 p9] 26 ?hr ?_; (case hr => rfl); intro g0 hg w1 hn hl; have GEg0 := ge_new HS hg; clear hg; replace HS := HS.below hl; have Bg0 := hn; clear hl hn) | (refine seg_new rfl (N := 3) rfl [.int .u64 g_0, .int .u64 g_1, .int .u64 g_2, .int .u64 g_3, .int .u64 g_4, .int .u64 g_5, .int .u64 g_6, .int .u64 g_7, .bool false, .bool true] 28 ?hr ?_; (case hr => rfl); intro g1 hg w2 hn hl; have Ng1_g0 := ne_new Bg0 hg; have GEg1 := ge_new HS hg; clear hg; replace Bg0 := Bg0.below hl; replace HS := HS.below hl; have Bg1 := hn; clear hl hn) | (refine seg_new rfl (N := 4) rfl [.int .i64 0, .slice none 0 0, .int .u64 0, .int .u64 0, .int .u64 0, .int .u64 0, .int .u64 0, .int .u64 0, .int .u64 0, .int .u64 0] 26 ?hr ?_; (case hr => rfl); intro g2 hg w3 hn hl; have Ng2_g0 := ne_new Bg0 hg; have Ng2_g1 := ne_new Bg1 hg; have GEg2 := ge_new HS hg; clear hg; replace Bg0 := Bg0.below hl; replace Bg1 := Bg1.below hl; replace HS := HS.below hl; have Bg2 := hn; clear hl hn; have kg1_8 := Bg1.at 8 rfl; have kg1_9 := Bg1.at 9 rfl) | (refine seg_load rfl (N := 14) rfl 26 (.tmp 2) rfl g0 0 [.int .i64 p0, .slice A1 l1.length k1, .int .u64 p2, .int .u64 p3, .int .u64 p4, .int .u64 p5, .int .u64 p6, .int .u64 p7, .int .u64 p8, .int .u64 p9] rfl Bg0 rfl Try.underlying26 rfl (by kernel_rfl) ?_) | ((go_at_call 32); (with_reducible refine (rbestC p0 p2 p3 p4 p5 p6 p7 p8 p9 A1 k1 l1 _ (Kd.C_below hr1 HS.out) hk1).mono ?_); rintro e w4 ⟨rfl, hl⟩; replace Bg0 := Bg0.below hl; replace Bg1 := Bg1.below hl; replace Bg2 := Bg2.below hl; replace HS := HS.below hl; clear hl; clear kg1_8 kg1_9; have kg0_4 := Bg0.at 4 rfl) | ((go_at_call 30); (with_reducible refine (wigwagref01_AddT.C p4 (p4 / 4) Wp4 (div_w Wp4 4 (by decide)) _).mono ?_); rintro e w5 ⟨rfl, hd⟩; have hl := hd.below; clear hd; replace Bg0 := Bg0.below hl; replace Bg1 := Bg1.below hl; replace Bg2 := Bg2.below hl; replace HS := HS.below hl; clear hl; clear kg0_4) | (refine seg_store rfl rfl 24 (.tmp 29) (.tmp 28) rfl g0 4 [.int .u64 (uBest l1)] [.int .i64 p0, .slice A1 l1.length k1, .int .u64 p2, .int .u64 p3, .int .u64 (uBest l1), .int .u64 p5, .int .u64 p6, .int .u64 p7, .int .u64 p8, .int .u64 p9] (.int .u64 (uBest l1)) rfl rfl rfl Bg0 (by kernel_rfl) (nle rfl) rfl rfl ?_; intro w6 hn hw; replace Bg1 := Bg1.grown hw Ng1_g0; replace Bg2 := Bg2.grown hw Ng2_g0; replace HS := HS.grown hw GEg0; replace Bg0 := hn; clear hw; clear hn) | (refine seg_store rfl rfl 24 (.tmp 30) (.const (.int .u64 0)) rfl g0 5 [.int .u64 0] [.int .i64 p0, .slice A1 l1.length k1, .int .u64 p2, .int .u64 p3, .int .u64 (uBest l1), .int .u64 0, .int .u64 p6, .int .u64 p7, .int .u64 p8, .int .u64 p9] (.int .u64 0) rfl rfl rfl Bg0 (by kernel_rfl) (nle rfl) rfl rfl ?_; intro w7 hn hw; replace Bg1 := Bg1.grown hw Ng1_g0; replace Bg2 := Bg2.grown hw Ng2_g0; replace HS := HS.grown hw GEg0; replace Bg0 := hn; clear hw; clear hn) | (refine seg_load rfl (N := 31) rfl 26 (.tmp 2) rfl g0 0 [.int .i64 p0, .slice A1 l1.length k1, .int .u64 p2, .int .u64 p3, .int .u64 (uBest l1), .int .u64 0, .int .u64 p6, .int .u64 p7, .int .u64 p8, .int .u64 p9] rfl Bg0 rfl Try.underlying26 rfl (by kernel_rfl) ?_) | (refine seg_store rfl rfl 26 (.tmp 4) (.tmp 31) rfl g2 0 [.int .i64 p0, .slice A1 l1.length k1, .int .u64 p2, .int .u64 p3, .int .u64 (uBest l1), .int .u64 0, .int .u64 p6, .int .u64 p7, .int .u64 p8, .int .u64 p9] [.int .i64 p0, .slice A1 l1.length k1, .int .u64 p2, .int .u64 p3, .int .u64 (uBest l1), .int .u64 0, .int .u64 p6, .int .u64 p7, .int .u64 p8, .int .u64 p9] (.agg #[.int .i64 p0, .slice A1 l1.length k1, .int .u64 p2, .int .u64 p3, .int .u64 (uBest l1), .int .u64 0, .int .u64 p6, .int .u64 p7, .int .u64 p8, .int .u64 p9]) rfl rfl rfl Bg2 (by kernel_rfl) (nle rfl) rfl rfl ?_; intro w8 hn hw; replace Bg0 := Bg0.grown hw Ng2_g0.symm; replace Bg1 := Bg1.grown hw Ng2_g1.symm; replace HS := HS.grown hw GEg2; replace Bg2 := hn; clear hw; clear hn))
 all_goals exact bodyPost_ret (results_cell1 rfl _ _ g2 26 [.int .i64 p0, .slice A1 l1.length k1, .int .u64 p2, .int .u64 p3, .int .u64 (uBest l1), .int .u64 0, .int .u64 p6, .int .u64 p7, .int .u64 p8, .int .u64 p9] _ rfl Bg2 Try.underlying26 rfl (by kernel_rfl)) rfl ⟨rfl, HS.out⟩
theorem rstart_2 (p0 p2 p3 p4 p5 p6 p7 p8 p9 g_0 g_1 g_2 g_3 g_4 g_5 g_6 g_7 : Int) (A1 : Option Addr) (k1 : Nat) (Wp4 : W64 p4) (Wp5 : W64 p5) (w : World) (l1 : List S52) (hr1 : Kd.C k52 w A1 l1.length l1) (hk1 : l1.length ≤ k1) (hw1 : SWf l1) (h0 : (decide (uAdd p4 (p4 / 4) ≤ uBest l1)) = true) (h1 : (decide (0 < uBest l1)) = false) (h2 : ((uAdd p5 1) == 3) = true) :
  Calls Try.prog 45 #[.agg #[.int .i64 p0, .slice A1 l1.length k1, .int .u64 p2, .int .u64 p3, .int .u64 p4, .int .u64 p5, .int .u64 p6, .int .u64 p7, .int .u64 p8, .int .u64 p9], .agg #[.int .u64 g_0, .int .u64 g_1, .int .u64 g_2, .int .u64 g_3, .int .u64 g_4, .int .u64 g_5, .int .u64 g_6, .int .u64 g_7, .bool false, .bool true]] w fun e w' => e = .returned (.agg #[.int .i64 1, .slice A1 l1.length k1, .int .u64 p2, .int .u64 p3, .int .u64 p4, .int .u64 (uAdd p5 1), .int .u64 p6, .int .u64 p7, .int .u64 p8, .int .u64 p9]) ∧ Below w.heap.size w w' := by
 have hu26 := Try.underlying26
 have hu28 := Try.underlying28
 have q0 : IntKind.u64.wrap (Int.tdiv p4 4) = p4 / 4 := wdiv Wp4 4 (by decide)
 have HS := Since.refl w
 go_enter Try.func45, Try.ntmps45
 go_wp2_with (first | (refine seg_new rfl (N := 2) rfl [.int .i64 p0, .slice A1 l1.length k1, .int .u64 p2, .int .u64 p3, .int .u64 p4, .int .u64 p5, .int .u64 p6, .int .u64 p7, .int .u64 p8, .int .u64 p9] 26 ?hr ?_; (case hr => rfl); intro g0 hg w1 hn hl; have GEg0 := ge_new HS hg; clear hg; replace HS := HS.below hl; have Bg0 := hn; clear hl hn) | (refine seg_new rfl (N := 3) rfl [.int .u64 g_0, .int .u64 g_1, .int .u64 g_2, .int .u64 g_3, .int .u64 g_4, .int .u64 g_5, .int .u64 g_6, .int .u64 g_7, .bool false, .bool true] 28 ?hr ?_; (case hr => rfl); intro g1 hg w2 hn hl; have Ng1_g0 := ne_new Bg0 hg; have GEg1 := ge_new HS hg; clear hg; replace Bg0 := Bg0.below hl; replace HS := HS.below hl; have Bg1 := hn; clear hl hn) | (refine seg_new rfl (N := 4) rfl [.int .i64 0, .slice none 0 0, .int .u64 0, .int .u64 0, .int .u64 0, .int .u64 0, .int .u64 0, .int .u64 0, .int .u64 0, .int .u64 0] 26 ?hr ?_; (case hr => rfl); intro g2 hg w3 hn hl; have Ng2_g0 := ne_new Bg0 hg; have Ng2_g1 := ne_new Bg1 hg; have GEg2 := ge_new HS hg; clear hg; replace Bg0 := Bg0.below hl; replace Bg1 := Bg1.below hl; replace HS := HS.below hl; have Bg2 := hn; clear hl hn; have kg1_8 := Bg1.at 8 rfl; have kg1_9 := Bg1.at 9 rfl) | (refine seg_load rfl (N := 14) rfl 26 (.tmp 2) rfl g0 0 [.int .i64 p0, .slice A1 l1.length k1, .int .u64 p2, .int .u64 p3, .int .u64 p4, .int .u64 p5, .int .u64 p6, .int .u64 p7, .int .u64 p8, .int .u64 p9] rfl Bg0 rfl Try.underlying26 rfl (by kernel_rfl) ?_) | ((go_at_call 32); (with_reducible refine (rbestC p0 p2 p3 p4 p5 p6 p7 p8 p9 A1 k1 l1 _ (Kd.C_below hr1 HS.out) hk1).mono ?_); rintro e w4 ⟨rfl, hl⟩; replace Bg0 := Bg0.below hl; replace Bg1 := Bg1.below hl; replace Bg2 := Bg2.below hl; replace HS := HS.below hl; clear hl; clear kg1_8 kg1_9; have kg0_4 := Bg0.at 4 rfl) | ((go_at_call 30); (with_reducible refine (wigwagref01_AddT.C p4 (p4 / 4) Wp4 (div_w Wp4 4 (by decide)) _).mono ?_); rintro e w5 ⟨rfl, hd⟩; have hl := hd.below; clear hd; replace Bg0 := Bg0.below hl; replace Bg1 := Bg1.below hl; replace Bg2 := Bg2.below hl; replace HS := HS.below hl; clear hl; clear kg0_4; have kg0_5 := Bg0.at 5 rfl) | ((go_at_call 30); (with_reducible refine (wigwagref01_AddT.C p5 1 Wp5 (by decide) _).mono ?_); rintro e w6 ⟨rfl, hd⟩; have hl := hd.below; clear hd; replace Bg0 := Bg0.below hl; replace Bg1 := Bg1.below hl; replace Bg2 := Bg2.below hl; replace HS := HS.below hl; clear hl; clear kg0_5) | (refine seg_store rfl rfl 24 (.tmp 35) (.tmp 34) rfl g0 5 [.int .u64 (uAdd p5 1)] [.int .i64 p0, .slice A1 l1.length k1, .int .u64 p2, .int .u64 p3, .int .u64 p4, .int .u64 (uAdd p5 1), .int .u64 p6, .int .u64 p7, .int .u64 p8, .int .u64 p9] (.int .u64 (uAdd p5 1)) rfl rfl rfl Bg0 (by kernel_rfl) (nle rfl) rfl rfl ?_; intro w7 hn hw; replace Bg1 := Bg1.grown hw Ng1_g0; replace Bg2 := Bg2.grown hw Ng2_g0; replace HS := HS.grown hw GEg0; replace Bg0 := hn; clear hw; have kg0_5 := Bg0.at 5 rfl; clear hn) | (refine seg_store rfl rfl 3 (.tmp 39) (.const (.int .i64 1)) rfl g0 0 [.int .i64 1] [.int .i64 1, .slice A1 l1.length k1, .int .u64 p2, .int .u64 p3, .int .u64 p4, .int .u64 (uAdd p5 1), .int .u64 p6, .int .u64 p7, .int .u64 p8, .int .u64 p9] (.int .i64 1) rfl rfl rfl Bg0 (by kernel_rfl) (nle rfl) rfl rfl ?_; intro w8 hn hw; replace Bg1 := Bg1.grown hw Ng1_g0; replace Bg2 := Bg2.grown hw Ng2_g0; replace HS := HS.grown hw GEg0; replace Bg0 := hn; clear hw; clear kg0_5; clear hn) | (refine seg_load rfl (N := 40) rfl 26 (.tmp 2) rfl g0 0 [.int .i64 1, .slice A1 l1.length k1, .int .u64 p2, .int .u64 p3, .int .u64 p4, .int .u64 (uAdd p5 1), .int .u64 p6, .int .u64 p7, .int .u64 p8, .int .u64 p9] rfl Bg0 rfl Try.underlying26 rfl (by kernel_rfl) ?_) | (refine seg_store rfl rfl 26 (.tmp 4) (.tmp 40) rfl g2 0 [.int .i64 1, .slice A1 l1.length k1, .int .u64 p2, .int .u64 p3, .int .u64 p4, .int .u64 (uAdd p5 1), .int .u64 p6, .int .u64 p7, .int .u64 p8, .int .u64 p9] [.int .i64 1, .slice A1 l1.length k1, .int .u64 p2, .int .u64 p3, .int .u64 p4, .int .u64 (uAdd p5 1), .int .u64 p6, .int .u64 p7, .int .u64 p8, .int .u64 p9] (.agg #[.int .i64 1, .slice A1 l1.length k1, .int .u64 p2, .int .u64 p3, .int .u64 p4, .int .u64 (uAdd p5 1), .int .u64 p6, .int .u64 p7, .int .u64 p8, .int .u64 p9]) rfl rfl rfl Bg2 (by kernel_rfl) (nle rfl) rfl rfl ?_; intro w9 hn hw; replace Bg0 := Bg0.grown hw Ng2_g0.symm; replace Bg1 := Bg1.grown hw Ng2_g1.symm; replace HS := HS.grown hw GEg2; replace Bg2 := hn; clear hw; clear hn))
 all_goals exact bodyPost_ret (results_cell1 rfl _ _ g2 26 [.int .i64 1, .slice A1 l1.length k1, .int .u64 p2, .int .u64 p3, .int .u64 p4, .int .u64 (uAdd p5 1), .int .u64 p6, .int .u64 p7, .int .u64 p8, .int .u64 p9] _ rfl Bg2 Try.underlying26 rfl (by kernel_rfl)) rfl ⟨rfl, HS.out⟩
theorem rstart_3 (p0 p2 p3 p4 p5 p6 p7 p8 p9 g_0 g_1 g_2 g_3 g_4 g_5 g_6 g_7 : Int) (A1 : Option Addr) (k1 : Nat) (Wp4 : W64 p4) (Wp5 : W64 p5) (w : World) (l1 : List S52) (hr1 : Kd.C k52 w A1 l1.length l1) (hk1 : l1.length ≤ k1) (hw1 : SWf l1) (h0 : (decide (uAdd p4 (p4 / 4) ≤ uBest l1)) = true) (h1 : (decide (0 < uBest l1)) = false) (h2 : ((uAdd p5 1) == 3) = false) :
  Calls Try.prog 45 #[.agg #[.int .i64 p0, .slice A1 l1.length k1, .int .u64 p2, .int .u64 p3, .int .u64 p4, .int .u64 p5, .int .u64 p6, .int .u64 p7, .int .u64 p8, .int .u64 p9], .agg #[.int .u64 g_0, .int .u64 g_1, .int .u64 g_2, .int .u64 g_3, .int .u64 g_4, .int .u64 g_5, .int .u64 g_6, .int .u64 g_7, .bool false, .bool true]] w fun e w' => e = .returned (.agg #[.int .i64 p0, .slice A1 l1.length k1, .int .u64 p2, .int .u64 p3, .int .u64 p4, .int .u64 (uAdd p5 1), .int .u64 p6, .int .u64 p7, .int .u64 p8, .int .u64 p9]) ∧ Below w.heap.size w w' := by
 have hu26 := Try.underlying26
 have hu28 := Try.underlying28
 have q0 : IntKind.u64.wrap (Int.tdiv p4 4) = p4 / 4 := wdiv Wp4 4 (by decide)
 have HS := Since.refl w
 go_enter Try.func45, Try.ntmps45
 go_wp2_with (first | (refine seg_new rfl (N := 2) rfl [.int .i64 p0, .slice A1 l1.length k1, .int .u64 p2, .int .u64 p3, .int .u64 p4, .int .u64 p5, .int .u64 p6, .int .u64 p7, .int .u64 p8, .int .u64 p9] 26 ?hr ?_; (case hr => rfl); intro g0 hg w1 hn hl; have GEg0 := ge_new HS hg; clear hg; replace HS := HS.below hl; have Bg0 := hn; clear hl hn) | (refine seg_new rfl (N := 3) rfl [.int .u64 g_0, .int .u64 g_1, .int .u64 g_2, .int .u64 g_3, .int .u64 g_4, .int .u64 g_5, .int .u64 g_6, .int .u64 g_7, .bool false, .bool true] 28 ?hr ?_; (case hr => rfl); intro g1 hg w2 hn hl; have Ng1_g0 := ne_new Bg0 hg; have GEg1 := ge_new HS hg; clear hg; replace Bg0 := Bg0.below hl; replace HS := HS.below hl; have Bg1 := hn; clear hl hn) | (refine seg_new rfl (N := 4) rfl [.int .i64 0, .slice none 0 0, .int .u64 0, .int .u64 0, .int .u64 0, .int .u64 0, .int .u64 0, .int .u64 0, .int .u64 0, .int .u64 0] 26 ?hr ?_; (case hr => rfl); intro g2 hg w3 hn hl; have Ng2_g0 := ne_new Bg0 hg; have Ng2_g1 := ne_new Bg1 hg; have GEg2 := ge_new HS hg; clear hg; replace Bg0 := Bg0.below hl; replace Bg1 := Bg1.below hl; replace HS := HS.below hl; have Bg2 := hn; clear hl hn; have kg1_8 := Bg1.at 8 rfl; have kg1_9 := Bg1.at 9 rfl) | (refine seg_load rfl (N := 14) rfl 26 (.tmp 2) rfl g0 0 [.int .i64 p0, .slice A1 l1.length k1, .int .u64 p2, .int .u64 p3, .int .u64 p4, .int .u64 p5, .int .u64 p6, .int .u64 p7, .int .u64 p8, .int .u64 p9] rfl Bg0 rfl Try.underlying26 rfl (by kernel_rfl) ?_) | ((go_at_call 32); (with_reducible refine (rbestC p0 p2 p3 p4 p5 p6 p7 p8 p9 A1 k1 l1 _ (Kd.C_below hr1 HS.out) hk1).mono ?_); rintro e w4 ⟨rfl, hl⟩; replace Bg0 := Bg0.below hl; replace Bg1 := Bg1.below hl; replace Bg2 := Bg2.below hl; replace HS := HS.below hl; clear hl; clear kg1_8 kg1_9; have kg0_4 := Bg0.at 4 rfl) | ((go_at_call 30); (with_reducible refine (wigwagref01_AddT.C p4 (p4 / 4) Wp4 (div_w Wp4 4 (by decide)) _).mono ?_); rintro e w5 ⟨rfl, hd⟩; have hl := hd.below; clear hd; replace Bg0 := Bg0.below hl; replace Bg1 := Bg1.below hl; replace Bg2 := Bg2.below hl; replace HS := HS.below hl; clear hl; clear kg0_4; have kg0_5 := Bg0.at 5 rfl) | ((go_at_call 30); (with_reducible refine (wigwagref01_AddT.C p5 1 Wp5 (by decide) _).mono ?_); rintro e w6 ⟨rfl, hd⟩; have hl := hd.below; clear hd; replace Bg0 := Bg0.below hl; replace Bg1 := Bg1.below hl; replace Bg2 := Bg2.below hl; replace HS := HS.below hl; clear hl; clear kg0_5) | (refine seg_store rfl rfl 24 (.tmp 35) (.tmp 34) rfl g0 5 [.int .u64 (uAdd p5 1)] [.int .i64 p0, .slice A1 l1.length k1, .int .u64 p2, .int .u64 p3, .int .u64 p4, .int .u64 (uAdd p5 1), .int .u64 p6, .int .u64 p7, .int .u64 p8, .int .u64 p9] (.int .u64 (uAdd p5 1)) rfl rfl rfl Bg0 (by kernel_rfl) (nle rfl) rfl rfl ?_; intro w7 hn hw; replace Bg1 := Bg1.grown hw Ng1_g0; replace Bg2 := Bg2.grown hw Ng2_g0; replace HS := HS.grown hw GEg0; replace Bg0 := hn; clear hw; have kg0_5 := Bg0.at 5 rfl; clear hn) | (refine seg_load rfl (N := 40) rfl 26 (.tmp 2) rfl g0 0 [.int .i64 p0, .slice A1 l1.length k1, .int .u64 p2, .int .u64 p3, .int .u64 p4, .int .u64 (uAdd p5 1), .int .u64 p6, .int .u64 p7, .int .u64 p8, .int .u64 p9] rfl Bg0 rfl Try.underlying26 rfl (by kernel_rfl) ?_) | (refine seg_store rfl rfl 26 (.tmp 4) (.tmp 40) rfl g2 0 [.int .i64 p0, .slice A1 l1.length k1, .int .u64 p2, .int .u64 p3, .int .u64 p4, .int .u64 (uAdd p5 1), .int .u64 p6, .int .u64 p7, .int .u64 p8, .int .u64 p9] [.int .i64 p0, .slice A1 l1.length k1, .int .u64 p2, .int .u64 p3, .int .u64 p4, .int .u64 (uAdd p5 1), .int .u64 p6, .int .u64 p7, .int .u64 p8, .int .u64 p9] (.agg #[.int .i64 p0, .slice A1 l1.length k1, .int .u64 p2, .int .u64 p3, .int .u64 p4, .int .u64 (uAdd p5 1), .int .u64 p6, .int .u64 p7, .int .u64 p8, .int .u64 p9]) rfl rfl rfl Bg2 (by kernel_rfl) (nle rfl) rfl rfl ?_; intro w8 hn hw; replace Bg0 := Bg0.grown hw Ng2_g0.symm; replace Bg1 := Bg1.grown hw Ng2_g1.symm; replace HS := HS.grown hw GEg2; replace Bg2 := hn; clear hw; clear kg0_5; clear hn))
 all_goals exact bodyPost_ret (results_cell1 rfl _ _ g2 26 [.int .i64 p0, .slice A1 l1.length k1, .int .u64 p2, .int .u64 p3, .int .u64 p4, .int .u64 (uAdd p5 1), .int .u64 p6, .int .u64 p7, .int .u64 p8, .int .u64 p9] _ rfl Bg2 Try.underlying26 rfl (by kernel_rfl)) rfl ⟨rfl, HS.out⟩
theorem rstart_4 (p0 p2 p3 p4 p5 p6 p7 p8 p9 g_0 g_1 g_2 g_3 g_4 g_5 g_6 g_7 : Int) (A1 : Option Addr) (k1 : Nat) (Wp4 : W64 p4) (Wp5 : W64 p5) (w : World) (l1 : List S52) (hr1 : Kd.C k52 w A1 l1.length l1) (hk1 : l1.length ≤ k1) (hw1 : SWf l1) (h0 : (decide (uAdd p4 (p4 / 4) ≤ uBest l1)) = false) (h1 : ((uAdd p5 1) == 3) = true) :
  Calls Try.prog 45 #[.agg #[.int .i64 p0, .slice A1 l1.length k1, .int .u64 p2, .int .u64 p3, .int .u64 p4, .int .u64 p5, .int .u64 p6, .int .u64 p7, .int .u64 p8, .int .u64 p9], .agg #[.int .u64 g_0, .int .u64 g_1, .int .u64 g_2, .int .u64 g_3, .int .u64 g_4, .int .u64 g_5, .int .u64 g_6, .int .u64 g_7, .bool false, .bool true]] w fun e w' => e = .returned (.agg #[.int .i64 1, .slice A1 l1.length k1, .int .u64 p2, .int .u64 p3, .int .u64 p4, .int .u64 (uAdd p5 1), .int .u64 p6, .int .u64 p7, .int .u64 p8, .int .u64 p9]) ∧ Below w.heap.size w w' := by
 have hu26 := Try.underlying26
 have hu28 := Try.underlying28
 have q0 : IntKind.u64.wrap (Int.tdiv p4 4) = p4 / 4 := wdiv Wp4 4 (by decide)
 have HS := Since.refl w
 go_enter Try.func45, Try.ntmps45
 go_wp2_with (first | (refine seg_new rfl (N := 2) rfl [.int .i64 p0, .slice A1 l1.length k1, .int .u64 p2, .int .u64 p3, .int .u64 p4, .int .u64 p5, .int .u64 p6, .int .u64 p7, .int .u64 p8, .int .u64 p9] 26 ?hr ?_; (case hr => rfl); intro g0 hg w1 hn hl; have GEg0 := ge_new HS hg; clear hg; replace HS := HS.below hl; have Bg0 := hn; clear hl hn) | (refine seg_new rfl (N := 3) rfl [.int .u64 g_0, .int .u64 g_1, .int .u64 g_2, .int .u64 g_3, .int .u64 g_4, .int .u64 g_5, .int .u64 g_6, .int .u64 g_7, .bool false, .bool true] 28 ?hr ?_; (case hr => rfl); intro g1 hg w2 hn hl; have Ng1_g0 := ne_new Bg0 hg; have GEg1 := ge_new HS hg; clear hg; replace Bg0 := Bg0.below hl; replace HS := HS.below hl; have Bg1 := hn; clear hl hn) | (refine seg_new rfl (N := 4) rfl [.int .i64 0, .slice none 0 0, .int .u64 0, .int .u64 0, .int .u64 0, .int .u64 0, .int .u64 0, .int .u64 0, .int .u64 0, .int .u64 0] 26 ?hr ?_; (case hr => rfl); intro g2 hg w3 hn hl; have Ng2_g0 := ne_new Bg0 hg; have Ng2_g1 := ne_new Bg1 hg; have GEg2 := ge_new HS hg; clear hg; replace Bg0 := Bg0.below hl; replace Bg1 := Bg1.below hl; replace HS := HS.below hl; have Bg2 := hn; clear hl hn; have kg1_8 := Bg1.at 8 rfl; have kg1_9 := Bg1.at 9 rfl) | (refine seg_load rfl (N := 14) rfl 26 (.tmp 2) rfl g0 0 [.int .i64 p0, .slice A1 l1.length k1, .int .u64 p2, .int .u64 p3, .int .u64 p4, .int .u64 p5, .int .u64 p6, .int .u64 p7, .int .u64 p8, .int .u64 p9] rfl Bg0 rfl Try.underlying26 rfl (by kernel_rfl) ?_) | ((go_at_call 32); (with_reducible refine (rbestC p0 p2 p3 p4 p5 p6 p7 p8 p9 A1 k1 l1 _ (Kd.C_below hr1 HS.out) hk1).mono ?_); rintro e w4 ⟨rfl, hl⟩; replace Bg0 := Bg0.below hl; replace Bg1 := Bg1.below hl; replace Bg2 := Bg2.below hl; replace HS := HS.below hl; clear hl; clear kg1_8 kg1_9; have kg0_4 := Bg0.at 4 rfl) | ((go_at_call 30); (with_reducible refine (wigwagref01_AddT.C p4 (p4 / 4) Wp4 (div_w Wp4 4 (by decide)) _).mono ?_); rintro e w5 ⟨rfl, hd⟩; have hl := hd.below; clear hd; replace Bg0 := Bg0.below hl; replace Bg1 := Bg1.below hl; replace Bg2 := Bg2.below hl; replace HS := HS.below hl; clear hl; clear kg0_4; have kg0_5 := Bg0.at 5 rfl) | ((go_at_call 30); (with_reducible refine (wigwagref01_AddT.C p5 1 Wp5 (by decide) _).mono ?_); rintro e w6 ⟨rfl, hd⟩; have hl := hd.below; clear hd; replace Bg0 := Bg0.below hl; replace Bg1 := Bg1.below hl; replace Bg2 := Bg2.below hl; replace HS := HS.below hl; clear hl; clear kg0_5) | (refine seg_store rfl rfl 24 (.tmp 35) (.tmp 34) rfl g0 5 [.int .u64 (uAdd p5 1)] [.int .i64 p0, .slice A1 l1.length k1, .int .u64 p2, .int .u64 p3, .int .u64 p4, .int .u64 (uAdd p5 1), .int .u64 p6, .int .u64 p7, .int .u64 p8, .int .u64 p9] (.int .u64 (uAdd p5 1)) rfl rfl rfl Bg0 (by kernel_rfl) (nle rfl) rfl rfl ?_; intro w7 hn hw; replace Bg1 := Bg1.grown hw Ng1_g0; replace Bg2 := Bg2.grown hw Ng2_g0; replace HS := HS.grown hw GEg0; replace Bg0 := hn; clear hw; have kg0_5 := Bg0.at 5 rfl; clear hn) | (refine seg_store rfl rfl 3 (.tmp 39) (.const (.int .i64 1)) rfl g0 0 [.int .i64 1] [.int .i64 1, .slice A1 l1.length k1, .int .u64 p2, .int .u64 p3, .int .u64 p4, .int .u64 (uAdd p5 1), .int .u64 p6, .int .u64 p7, .int .u64 p8, .int .u64 p9] (.int .i64 1) rfl rfl rfl Bg0 (by kernel_rfl) (nle rfl) rfl rfl ?_; intro w8 hn hw; replace Bg1 := Bg1.grown hw Ng1_g0; replace Bg2 := Bg2.grown hw Ng2_g0; replace HS := HS.grown hw GEg0; replace Bg0 := hn; clear hw; clear kg0_5; clear hn) | (refine seg_load rfl (N := 40) rfl 26 (.tmp 2) rfl g0 0 [.int .i64 1, .slice A1 l1.length k1, .int .u64 p2, .int .u64 p3, .int .u64 p4, .int .u64 (uAdd p5 1), .int .u64 p6, .int .u64 p7, .int .u64 p8, .int .u64 p9] rfl Bg0 rfl Try.underlying26 rfl (by kernel_rfl) ?_) | (refine seg_store rfl rfl 26 (.tmp 4) (.tmp 40) rfl g2 0 [.int .i64 1, .slice A1 l1.length k1, .int .u64 p2, .int .u64 p3, .int .u64 p4, .int .u64 (uAdd p5 1), .int .u64 p6, .int .u64 p7, .int .u64 p8, .int .u64 p9] [.int .i64 1, .slice A1 l1.length k1, .int .u64 p2, .int .u64 p3, .int .u64 p4, .int .u64 (uAdd p5 1), .int .u64 p6, .int .u64 p7, .int .u64 p8, .int .u64 p9] (.agg #[.int .i64 1, .slice A1 l1.length k1, .int .u64 p2, .int .u64 p3, .int .u64 p4, .int .u64 (uAdd p5 1), .int .u64 p6, .int .u64 p7, .int .u64 p8, .int .u64 p9]) rfl rfl rfl Bg2 (by kernel_rfl) (nle rfl) rfl rfl ?_; intro w9 hn hw; replace Bg0 := Bg0.grown hw Ng2_g0.symm; replace Bg1 := Bg1.grown hw Ng2_g1.symm; replace HS := HS.grown hw GEg2; replace Bg2 := hn; clear hw; clear hn))
 all_goals exact bodyPost_ret (results_cell1 rfl _ _ g2 26 [.int .i64 1, .slice A1 l1.length k1, .int .u64 p2, .int .u64 p3, .int .u64 p4, .int .u64 (uAdd p5 1), .int .u64 p6, .int .u64 p7, .int .u64 p8, .int .u64 p9] _ rfl Bg2 Try.underlying26 rfl (by kernel_rfl)) rfl ⟨rfl, HS.out⟩
theorem rstart_5 (p0 p2 p3 p4 p5 p6 p7 p8 p9 g_0 g_1 g_2 g_3 g_4 g_5 g_6 g_7 : Int) (A1 : Option Addr) (k1 : Nat) (Wp4 : W64 p4) (Wp5 : W64 p5) (w : World) (l1 : List S52) (hr1 : Kd.C k52 w A1 l1.length l1) (hk1 : l1.length ≤ k1) (hw1 : SWf l1) (h0 : (decide (uAdd p4 (p4 / 4) ≤ uBest l1)) = false) (h1 : ((uAdd p5 1) == 3) = false) :
  Calls Try.prog 45 #[.agg #[.int .i64 p0, .slice A1 l1.length k1, .int .u64 p2, .int .u64 p3, .int .u64 p4, .int .u64 p5, .int .u64 p6, .int .u64 p7, .int .u64 p8, .int .u64 p9], .agg #[.int .u64 g_0, .int .u64 g_1, .int .u64 g_2, .int .u64 g_3, .int .u64 g_4, .int .u64 g_5, .int .u64 g_6, .int .u64 g_7, .bool false, .bool true]] w fun e w' => e = .returned (.agg #[.int .i64 p0, .slice A1 l1.length k1, .int .u64 p2, .int .u64 p3, .int .u64 p4, .int .u64 (uAdd p5 1), .int .u64 p6, .int .u64 p7, .int .u64 p8, .int .u64 p9]) ∧ Below w.heap.size w w' := by
 have hu26 := Try.underlying26
 have hu28 := Try.underlying28
 have q0 : IntKind.u64.wrap (Int.tdiv p4 4) = p4 / 4 := wdiv Wp4 4 (by decide)
 have HS := Since.refl w
 go_enter Try.func45, Try.ntmps45
 go_wp2_with (first | (refine seg_new rfl (N := 2) rfl [.int .i64 p0, .slice A1 l1.length k1, .int .u64 p2, .int .u64 p3, .int .u64 p4, .int .u64 p5, .int .u64 p6, .int .u64 p7, .int .u64 p8, .int .u64 p9] 26 ?hr ?_; (case hr => rfl); intro g0 hg w1 hn hl; have GEg0 := ge_new HS hg; clear hg; replace HS := HS.below hl; have Bg0 := hn; clear hl hn) | (refine seg_new rfl (N := 3) rfl [.int .u64 g_0, .int .u64 g_1, .int .u64 g_2, .int .u64 g_3, .int .u64 g_4, .int .u64 g_5, .int .u64 g_6, .int .u64 g_7, .bool false, .bool true] 28 ?hr ?_; (case hr => rfl); intro g1 hg w2 hn hl; have Ng1_g0 := ne_new Bg0 hg; have GEg1 := ge_new HS hg; clear hg; replace Bg0 := Bg0.below hl; replace HS := HS.below hl; have Bg1 := hn; clear hl hn) | (refine seg_new rfl (N := 4) rfl [.int .i64 0, .slice none 0 0, .int .u64 0, .int .u64 0, .int .u64 0, .int .u64 0, .int .u64 0, .int .u64 0, .int .u64 0, .int .u64 0] 26 ?hr ?_; (case hr => rfl); intro g2 hg w3 hn hl; have Ng2_g0 := ne_new Bg0 hg; have Ng2_g1 := ne_new Bg1 hg; have GEg2 := ge_new HS hg; clear hg; replace Bg0 := Bg0.below hl; replace Bg1 := Bg1.below hl; replace HS := HS.below hl; have Bg2 := hn; clear hl hn; have kg1_8 := Bg1.at 8 rfl; have kg1_9 := Bg1.at 9 rfl) | (refine seg_load rfl (N := 14) rfl 26 (.tmp 2) rfl g0 0 [.int .i64 p0, .slice A1 l1.length k1, .int .u64 p2, .int .u64 p3, .int .u64 p4, .int .u64 p5, .int .u64 p6, .int .u64 p7, .int .u64 p8, .int .u64 p9] rfl Bg0 rfl Try.underlying26 rfl (by kernel_rfl) ?_) | ((go_at_call 32); (with_reducible refine (rbestC p0 p2 p3 p4 p5 p6 p7 p8 p9 A1 k1 l1 _ (Kd.C_below hr1 HS.out) hk1).mono ?_); rintro e w4 ⟨rfl, hl⟩; replace Bg0 := Bg0.below hl; replace Bg1 := Bg1.below hl; replace Bg2 := Bg2.below hl; replace HS := HS.below hl; clear hl; clear kg1_8 kg1_9; have kg0_4 := Bg0.at 4 rfl) | ((go_at_call 30); (with_reducible refine (wigwagref01_AddT.C p4 (p4 / 4) Wp4 (div_w Wp4 4 (by decide)) _).mono ?_); rintro e w5 ⟨rfl, hd⟩; have hl := hd.below; clear hd; replace Bg0 := Bg0.below hl; replace Bg1 := Bg1.below hl; replace Bg2 := Bg2.below hl; replace HS := HS.below hl; clear hl; clear kg0_4; have kg0_5 := Bg0.at 5 rfl) | ((go_at_call 30); (with_reducible refine (wigwagref01_AddT.C p5 1 Wp5 (by decide) _).mono ?_); rintro e w6 ⟨rfl, hd⟩; have hl := hd.below; clear hd; replace Bg0 := Bg0.below hl; replace Bg1 := Bg1.below hl; replace Bg2 := Bg2.below hl; replace HS := HS.below hl; clear hl; clear kg0_5) | (refine seg_store rfl rfl 24 (.tmp 35) (.tmp 34) rfl g0 5 [.int .u64 (uAdd p5 1)] [.int .i64 p0, .slice A1 l1.length k1, .int .u64 p2, .int .u64 p3, .int .u64 p4, .int .u64 (uAdd p5 1), .int .u64 p6, .int .u64 p7, .int .u64 p8, .int .u64 p9] (.int .u64 (uAdd p5 1)) rfl rfl rfl Bg0 (by kernel_rfl) (nle rfl) rfl rfl ?_; intro w7 hn hw; replace Bg1 := Bg1.grown hw Ng1_g0; replace Bg2 := Bg2.grown hw Ng2_g0; replace HS := HS.grown hw GEg0; replace Bg0 := hn; clear hw; have kg0_5 := Bg0.at 5 rfl; clear hn) | (refine seg_load rfl (N := 40) rfl 26 (.tmp 2) rfl g0 0 [.int .i64 p0, .slice A1 l1.length k1, .int .u64 p2, .int .u64 p3, .int .u64 p4, .int .u64 (uAdd p5 1), .int .u64 p6, .int .u64 p7, .int .u64 p8, .int .u64 p9] rfl Bg0 rfl Try.underlying26 rfl (by kernel_rfl) ?_) | (refine seg_store rfl rfl 26 (.tmp 4) (.tmp 40) rfl g2 0 [.int .i64 p0, .slice A1 l1.length k1, .int .u64 p2, .int .u64 p3, .int .u64 p4, .int .u64 (uAdd p5 1), .int .u64 p6, .int .u64 p7, .int .u64 p8, .int .u64 p9] [.int .i64 p0, .slice A1 l1.length k1, .int .u64 p2, .int .u64 p3, .int .u64 p4, .int .u64 (uAdd p5 1), .int .u64 p6, .int .u64 p7, .int .u64 p8, .int .u64 p9] (.agg #[.int .i64 p0, .slice A1 l1.length k1, .int .u64 p2, .int .u64 p3, .int .u64 p4, .int .u64 (uAdd p5 1), .int .u64 p6, .int .u64 p7, .int .u64 p8, .int .u64 p9]) rfl rfl rfl Bg2 (by kernel_rfl) (nle rfl) rfl rfl ?_; intro w8 hn hw; replace Bg0 := Bg0.grown hw Ng2_g0.symm; replace Bg1 := Bg1.grown hw Ng2_g1.symm; replace HS := HS.grown hw GEg2; replace Bg2 := hn; clear hw; clear kg0_5; clear hn))
 all_goals exact bodyPost_ret (results_cell1 rfl _ _ g2 26 [.int .i64 p0, .slice A1 l1.length k1, .int .u64 p2, .int .u64 p3, .int .u64 p4, .int .u64 (uAdd p5 1), .int .u64 p6, .int .u64 p7, .int .u64 p8, .int .u64 p9] _ rfl Bg2 Try.underlying26 rfl (by kernel_rfl)) rfl ⟨rfl, HS.out⟩
theorem rstart_6 (p0 p2 p3 p4 p5 p6 p7 p8 p9 g_0 g_1 g_2 g_3 g_4 g_5 g_6 g_7 : Int) (g_8 : Bool) (A1 : Option Addr) (k1 : Nat)  (w : World) (l1 : List S52) (hr1 : Kd.C k52 w A1 l1.length l1) (hk1 : l1.length ≤ k1) (hw1 : SWf l1) :
  Calls Try.prog 45 #[.agg #[.int .i64 p0, .slice A1 l1.length k1, .int .u64 p2, .int .u64 p3, .int .u64 p4, .int .u64 p5, .int .u64 p6, .int .u64 p7, .int .u64 p8, .int .u64 p9], .agg #[.int .u64 g_0, .int .u64 g_1, .int .u64 g_2, .int .u64 g_3, .int .u64 g_4, .int .u64 g_5, .int .u64 g_6, .int .u64 g_7, .bool g_8, .bool false]] w fun e w' => e = .returned (.agg #[.int .i64 p0, .slice A1 l1.length k1, .int .u64 p2, .int .u64 p3, .int .u64 p4, .int .u64 p5, .int .u64 p6, .int .u64 p7, .int .u64 p8, .int .u64 p9]) ∧ Below w.heap.size w w' := by
 have hu26 := Try.underlying26
 have hu28 := Try.underlying28
 have HS := Since.refl w
 go_enter Try.func45, Try.ntmps45
 go_wp2_with (first | (refine seg_new rfl (N := 2) rfl [.int .i64 p0, .slice A1 l1.length k1, .int .u64 p2, .int .u64 p3, .int .u64 p4, .int .u64 p5, .int .u64 p6, .int .u64 p7, .int .u64 p8, .int .u64 p9] 26 ?hr ?_; (case hr => rfl); intro g0 hg w1 hn hl; have GEg0 := ge_new HS hg; clear hg; replace HS := HS.below hl; have Bg0 := hn; clear hl hn) | (refine seg_new rfl (N := 3) rfl [.int .u64 g_0, .int .u64 g_1, .int .u64 g_2, .int .u64 g_3, .int .u64 g_4, .int .u64 g_5, .int .u64 g_6, .int .u64 g_7, .bool g_8, .bool false] 28 ?hr ?_; (case hr => rfl); intro g1 hg w2 hn hl; have Ng1_g0 := ne_new Bg0 hg; have GEg1 := ge_new HS hg; clear hg; replace Bg0 := Bg0.below hl; replace HS := HS.below hl; have Bg1 := hn; clear hl hn) | (refine seg_new rfl (N := 4) rfl [.int .i64 0, .slice none 0 0, .int .u64 0, .int .u64 0, .int .u64 0, .int .u64 0, .int .u64 0, .int .u64 0, .int .u64 0, .int .u64 0] 26 ?hr ?_; (case hr => rfl); intro g2 hg w3 hn hl; have Ng2_g0 := ne_new Bg0 hg; have Ng2_g1 := ne_new Bg1 hg; have GEg2 := ge_new HS hg; clear hg; replace Bg0 := Bg0.below hl; replace Bg1 := Bg1.below hl; replace HS := HS.below hl; have Bg2 := hn; clear hl hn; have kg1_9 := Bg1.at 9 rfl) | (refine seg_load rfl (N := 13) rfl 26 (.tmp 2) rfl g0 0 [.int .i64 p0, .slice A1 l1.length k1, .int .u64 p2, .int .u64 p3, .int .u64 p4, .int .u64 p5, .int .u64 p6, .int .u64 p7, .int .u64 p8, .int .u64 p9] rfl Bg0 rfl Try.underlying26 rfl (by kernel_rfl) ?_) | (refine seg_store rfl rfl 26 (.tmp 4) (.tmp 13) rfl g2 0 [.int .i64 p0, .slice A1 l1.length k1, .int .u64 p2, .int .u64 p3, .int .u64 p4, .int .u64 p5, .int .u64 p6, .int .u64 p7, .int .u64 p8, .int .u64 p9] [.int .i64 p0, .slice A1 l1.length k1, .int .u64 p2, .int .u64 p3, .int .u64 p4, .int .u64 p5, .int .u64 p6, .int .u64 p7, .int .u64 p8, .int .u64 p9] (.agg #[.int .i64 p0, .slice A1 l1.length k1, .int .u64 p2, .int .u64 p3, .int .u64 p4, .int .u64 p5, .int .u64 p6, .int .u64 p7, .int .u64 p8, .int .u64 p9]) rfl rfl rfl Bg2 (by kernel_rfl) (nle rfl) rfl rfl ?_; intro w4 hn hw; replace Bg0 := Bg0.grown hw Ng2_g0.symm; replace Bg1 := Bg1.grown hw Ng2_g1.symm; replace HS := HS.grown hw GEg2; replace Bg2 := hn; clear hw; clear kg1_9; clear hn))
 all_goals exact bodyPost_ret (results_cell1 rfl _ _ g2 26 [.int .i64 p0, .slice A1 l1.length k1, .int .u64 p2, .int .u64 p3, .int .u64 p4, .int .u64 p5, .int .u64 p6, .int .u64 p7, .int .u64 p8, .int .u64 p9] _ rfl Bg2 Try.underlying26 rfl (by kernel_rfl)) rfl ⟨rfl, HS.out⟩
theorem startC (p0 p2 p3 p4 p5 p6 p7 p8 p9 : Int) (g_0 g_1 g_2 g_3 g_4 g_5 g_6 g_7 : Int) (g_8 g_9 : Bool) (A1 : Option Addr) (k1 : Nat) (l1 : List S52) (hw1 : SWf l1) (Wp4 : W64 p4) (Wp5 : W64 p5) (w : World) (hr1 : Kd.C k52 w A1 l1.length l1) (hk1 : l1.length ≤ k1) :
  Calls Try.prog 45 #[.agg #[.int .i64 p0, .slice A1 l1.length k1, .int .u64 p2, .int .u64 p3, .int .u64 p4, .int .u64 p5, .int .u64 p6, .int .u64 p7, .int .u64 p8, .int .u64 p9], .agg #[.int .u64 g_0, .int .u64 g_1, .int .u64 g_2, .int .u64 g_3, .int .u64 g_4, .int .u64 g_5, .int .u64 g_6, .int .u64 g_7, .bool g_8, .bool g_9]] w fun e w' => e = .returned (.agg #[.int .i64 (pStart p0 l1 p4 p5 g_8 g_9).1, .slice A1 l1.length k1, .int .u64 p2, .int .u64 p3, .int .u64 (pStart p0 l1 p4 p5 g_8 g_9).2.1, .int .u64 (pStart p0 l1 p4 p5 g_8 g_9).2.2, .int .u64 p6, .int .u64 p7, .int .u64 p8, .int .u64 p9]) ∧ Below w.heap.size w w' := by
 cases g_8 with
 | false =>
  cases g_9 with
  | false =>
   refine (rstart_6 p0 p2 p3 p4 p5 p6 p7 p8 p9 g_0 g_1 g_2 g_3 g_4 g_5 g_6 g_7 false A1 k1 w l1 hr1 hk1 hw1 ).mono ?_
   rintro e w' ⟨rfl, hb⟩
   refine ⟨?_, hb⟩
   simp [pStart]
  | true =>
   by_cases e1 : uAdd p4 (p4 / 4) ≤ uBest l1
   ·have f1 : (decide (uAdd p4 (p4 / 4) ≤ uBest l1)) = true := decide_eq_true e1
    by_cases e2 : 0 < uBest l1
    ·have f2 : (decide (0 < uBest l1)) = true := decide_eq_true e2
     refine (rstart_1 p0 p2 p3 p4 p5 p6 p7 p8 p9 g_0 g_1 g_2 g_3 g_4 g_5 g_6 g_7 A1 k1 Wp4 w l1 hr1 hk1 hw1 f1 f2).mono ?_
     rintro e w' ⟨rfl, hb⟩
     refine ⟨?_, hb⟩
     simp [pStart, e1, e2]
    ·have f2 : (decide (0 < uBest l1)) = false := decide_eq_false e2
     by_cases e3 : (uAdd p5 1) = 3
     ·have f3 : ((uAdd p5 1) == 3) = true := (by simpa using e3)
      refine (rstart_2 p0 p2 p3 p4 p5 p6 p7 p8 p9 g_0 g_1 g_2 g_3 g_4 g_5 g_6 g_7 A1 k1 Wp4 Wp5 w l1 hr1 hk1 hw1 f1 f2 f3).mono ?_
      rintro e w' ⟨rfl, hb⟩
      refine ⟨?_, hb⟩
      simp [pStart, e1, e2, e3]
     ·have f3 : ((uAdd p5 1) == 3) = false := (by simpa using e3)
      refine (rstart_3 p0 p2 p3 p4 p5 p6 p7 p8 p9 g_0 g_1 g_2 g_3 g_4 g_5 g_6 g_7 A1 k1 Wp4 Wp5 w l1 hr1 hk1 hw1 f1 f2 f3).mono ?_
      rintro e w' ⟨rfl, hb⟩
      refine ⟨?_, hb⟩
      simp [pStart, e1, e2, e3]
   ·have f1 : (decide (uAdd p4 (p4 / 4) ≤ uBest l1)) = false := decide_eq_false e1
    by_cases e4 : (uAdd p5 1) = 3
    ·have f4 : ((uAdd p5 1) == 3) = true := (by simpa using e4)
     refine (rstart_4 p0 p2 p3 p4 p5 p6 p7 p8 p9 g_0 g_1 g_2 g_3 g_4 g_5 g_6 g_7 A1 k1 Wp4 Wp5 w l1 hr1 hk1 hw1 f1 f4).mono ?_
     rintro e w' ⟨rfl, hb⟩
     refine ⟨?_, hb⟩
     simp [pStart, e1, e4]
    ·have f4 : ((uAdd p5 1) == 3) = false := (by simpa using e4)
     refine (rstart_5 p0 p2 p3 p4 p5 p6 p7 p8 p9 g_0 g_1 g_2 g_3 g_4 g_5 g_6 g_7 A1 k1 Wp4 Wp5 w l1 hr1 hk1 hw1 f1 f4).mono ?_
     rintro e w' ⟨rfl, hb⟩
     refine ⟨?_, hb⟩
     simp [pStart, e1, e4]
 | true =>
  cases g_9 with
  | false =>
   refine (rstart_6 p0 p2 p3 p4 p5 p6 p7 p8 p9 g_0 g_1 g_2 g_3 g_4 g_5 g_6 g_7 true A1 k1 w l1 hr1 hk1 hw1 ).mono ?_
   rintro e w' ⟨rfl, hb⟩
   refine ⟨?_, hb⟩
   simp [pStart]
  | true =>
   refine (rstart_0 p0 p2 p3 p4 p5 p6 p7 p8 p9 g_0 g_1 g_2 g_3 g_4 g_5 g_6 g_7 A1 k1 w l1 hr1 hk1 hw1 ).mono ?_
   rintro e w' ⟨rfl, hb⟩
   refine ⟨?_, hb⟩
   simp [pStart]
theorem rmove_0 (p0 p2 p3 p4 p5 p6 p7 p8 p9 g_0 g_1 g_2 g_3 g_4 g_5 g_6 g_7 : Int) (g_8 g_9 stale : Bool) (A1 : Option Addr) (k1 : Nat) (Wp4 : W64 p4) (Wp5 : W64 p5) (w : World) (l1 : List S52) (hr1 : Kd.C k52 w A1 l1.length l1) (hk1 : l1.length ≤ k1) (hw1 : SWf l1) (h0 : (p0 == 0) = true) :
  Calls Try.prog 34 #[.agg #[.int .i64 p0, .slice A1 l1.length k1, .int .u64 p2, .int .u64 p3, .int .u64 p4, .int .u64 p5, .int .u64 p6, .int .u64 p7, .int .u64 p8, .int .u64 p9], .agg #[.int .u64 g_0, .int .u64 g_1, .int .u64 g_2, .int .u64 g_3, .int .u64 g_4, .int .u64 g_5, .int .u64 g_6, .int .u64 g_7, .bool g_8, .bool g_9], .bool stale] w fun e w' => e = .returned (.agg #[.int .i64 ((pStart p0 l1 p4 p5 g_8 g_9).1), .slice A1 l1.length k1, .int .u64 p2, .int .u64 p3, .int .u64 ((pStart p0 l1 p4 p5 g_8 g_9).2.1), .int .u64 ((pStart p0 l1 p4 p5 g_8 g_9).2.2), .int .u64 p6, .int .u64 p7, .int .u64 p8, .int .u64 p9]) ∧ Below w.heap.size w w' := by
 have hu26 := Try.underlying26
 have hu28 := Try.underlying28
 have HS := Since.refl w
 go_enter Try.func34, Try.ntmps34
 go_wp2_with (first | (refine seg_new rfl (N := 3) rfl [.int .i64 p0, .slice A1 l1.length k1, .int .u64 p2, .int .u64 p3, .int .u64 p4, .int .u64 p5, .int .u64 p6, .int .u64 p7, .int .u64 p8, .int .u64 p9] 26 ?hr ?_; (case hr => rfl); intro g0 hg w1 hn hl; have GEg0 := ge_new HS hg; clear hg; replace HS := HS.below hl; have Bg0 := hn; clear hl hn) | (refine seg_new rfl (N := 4) rfl [.int .u64 g_0, .int .u64 g_1, .int .u64 g_2, .int .u64 g_3, .int .u64 g_4, .int .u64 g_5, .int .u64 g_6, .int .u64 g_7, .bool g_8, .bool g_9] 28 ?hr ?_; (case hr => rfl); intro g1 hg w2 hn hl; have Ng1_g0 := ne_new Bg0 hg; have GEg1 := ge_new HS hg; clear hg; replace Bg0 := Bg0.below hl; replace HS := HS.below hl; have Bg1 := hn; clear hl hn) | (refine seg_new rfl (N := 6) rfl [.int .i64 0, .slice none 0 0, .int .u64 0, .int .u64 0, .int .u64 0, .int .u64 0, .int .u64 0, .int .u64 0, .int .u64 0, .int .u64 0] 26 ?hr ?_; (case hr => rfl); intro g2 hg w3 hn hl; have Ng2_g0 := ne_new Bg0 hg; have Ng2_g1 := ne_new Bg1 hg; have GEg2 := ge_new HS hg; clear hg; replace Bg0 := Bg0.below hl; replace Bg1 := Bg1.below hl; replace HS := HS.below hl; have Bg2 := hn; clear hl hn; have kg0_0 := Bg0.at 0 rfl) | (refine seg_load rfl (N := 11) rfl 26 (.tmp 3) rfl g0 0 [.int .i64 p0, .slice A1 l1.length k1, .int .u64 p2, .int .u64 p3, .int .u64 p4, .int .u64 p5, .int .u64 p6, .int .u64 p7, .int .u64 p8, .int .u64 p9] rfl Bg0 rfl Try.underlying26 rfl (by kernel_rfl) ?_) | (refine seg_load rfl (N := 12) rfl 28 (.tmp 4) rfl g1 0 [.int .u64 g_0, .int .u64 g_1, .int .u64 g_2, .int .u64 g_3, .int .u64 g_4, .int .u64 g_5, .int .u64 g_6, .int .u64 g_7, .bool g_8, .bool g_9] rfl Bg1 rfl Try.underlying28 rfl (by kernel_rfl) ?_) | ((go_at_call 45); (with_reducible refine (startC p0 p2 p3 p4 p5 p6 p7 p8 p9 g_0 g_1 g_2 g_3 g_4 g_5 g_6 g_7 g_8 g_9 A1 k1 l1 hw1 Wp4 Wp5 _ (Kd.C_below hr1 HS.out) hk1).mono ?_); rintro e w4 ⟨rfl, hl⟩; replace Bg0 := Bg0.below hl; replace Bg1 := Bg1.below hl; replace Bg2 := Bg2.below hl; replace HS := HS.below hl; clear hl; clear kg0_0) | (refine seg_store rfl rfl 26 (.tmp 6) (.tmp 13) rfl g2 0 [.int .i64 ((pStart p0 l1 p4 p5 g_8 g_9).1), .slice A1 l1.length k1, .int .u64 p2, .int .u64 p3, .int .u64 ((pStart p0 l1 p4 p5 g_8 g_9).2.1), .int .u64 ((pStart p0 l1 p4 p5 g_8 g_9).2.2), .int .u64 p6, .int .u64 p7, .int .u64 p8, .int .u64 p9] [.int .i64 ((pStart p0 l1 p4 p5 g_8 g_9).1), .slice A1 l1.length k1, .int .u64 p2, .int .u64 p3, .int .u64 ((pStart p0 l1 p4 p5 g_8 g_9).2.1), .int .u64 ((pStart p0 l1 p4 p5 g_8 g_9).2.2), .int .u64 p6, .int .u64 p7, .int .u64 p8, .int .u64 p9] (.agg #[.int .i64 ((pStart p0 l1 p4 p5 g_8 g_9).1), .slice A1 l1.length k1, .int .u64 p2, .int .u64 p3, .int .u64 ((pStart p0 l1 p4 p5 g_8 g_9).2.1), .int .u64 ((pStart p0 l1 p4 p5 g_8 g_9).2.2), .int .u64 p6, .int .u64 p7, .int .u64 p8, .int .u64 p9]) rfl rfl rfl Bg2 (by kernel_rfl) (nle rfl) rfl rfl ?_; intro w5 hn hw; replace Bg0 := Bg0.grown hw Ng2_g0.symm; replace Bg1 := Bg1.grown hw Ng2_g1.symm; replace HS := HS.grown hw GEg2; replace Bg2 := hn; clear hw; clear hn))
 all_goals exact bodyPost_ret (results_cell1 rfl _ _ g2 26 [.int .i64 ((pStart p0 l1 p4 p5 g_8 g_9).1), .slice A1 l1.length k1, .int .u64 p2, .int .u64 p3, .int .u64 ((pStart p0 l1 p4 p5 g_8 g_9).2.1), .int .u64 ((pStart p0 l1 p4 p5 g_8 g_9).2.2), .int .u64 p6, .int .u64 p7, .int .u64 p8, .int .u64 p9] _ rfl Bg2 Try.underlying26 rfl (by kernel_rfl)) rfl ⟨rfl, HS.out⟩
theorem rmove_1 (p0 p2 p3 p4 p5 p6 p7 p8 p9 g_0 g_1 g_2 g_3 g_4 g_5 g_6 g_7 : Int) (g_8 g_9 stale : Bool) (A1 : Option Addr) (k1 : Nat) (Wp2 : W64 p2) (w : World) (l1 : List S52) (hr1 : Kd.C k52 w A1 l1.length l1) (hk1 : l1.length ≤ k1) (hw1 : SWf l1) (h0 : (p0 == 0) = false) (h1 : (p0 == 1) = true) (h2 : (decide (g_6 ≤ uProd l1 p2 256)) = true) :
  Calls Try.prog 34 #[.agg #[.int .i64 p0, .slice A1 l1.length k1, .int .u64 p2, .int .u64 p3, .int .u64 p4, .int .u64 p5, .int .u64 p6, .int .u64 p7, .int .u64 p8, .int .u64 p9], .agg #[.int .u64 g_0, .int .u64 g_1, .int .u64 g_2, .int .u64 g_3, .int .u64 g_4, .int .u64 g_5, .int .u64 g_6, .int .u64 g_7, .bool g_8, .bool g_9], .bool stale] w fun e w' => e = .returned (.agg #[.int .i64 2, .slice A1 l1.length k1, .int .u64 p2, .int .u64 p3, .int .u64 p4, .int .u64 p5, .int .u64 p6, .int .u64 0, .int .u64 g_0, .int .u64 p9]) ∧ Below w.heap.size w w' := by
 have hu26 := Try.underlying26
 have hu28 := Try.underlying28
 have HS := Since.refl w
 go_enter Try.func34, Try.ntmps34
 go_wp2_with (first | (refine seg_new rfl (N := 3) rfl [.int .i64 p0, .slice A1 l1.length k1, .int .u64 p2, .int .u64 p3, .int .u64 p4, .int .u64 p5, .int .u64 p6, .int .u64 p7, .int .u64 p8, .int .u64 p9] 26 ?hr ?_; (case hr => rfl); intro g0 hg w1 hn hl; have GEg0 := ge_new HS hg; clear hg; replace HS := HS.below hl; have Bg0 := hn; clear hl hn) | (refine seg_new rfl (N := 4) rfl [.int .u64 g_0, .int .u64 g_1, .int .u64 g_2, .int .u64 g_3, .int .u64 g_4, .int .u64 g_5, .int .u64 g_6, .int .u64 g_7, .bool g_8, .bool g_9] 28 ?hr ?_; (case hr => rfl); intro g1 hg w2 hn hl; have Ng1_g0 := ne_new Bg0 hg; have GEg1 := ge_new HS hg; clear hg; replace Bg0 := Bg0.below hl; replace HS := HS.below hl; have Bg1 := hn; clear hl hn) | (refine seg_new rfl (N := 6) rfl [.int .i64 0, .slice none 0 0, .int .u64 0, .int .u64 0, .int .u64 0, .int .u64 0, .int .u64 0, .int .u64 0, .int .u64 0, .int .u64 0] 26 ?hr ?_; (case hr => rfl); intro g2 hg w3 hn hl; have Ng2_g0 := ne_new Bg0 hg; have Ng2_g1 := ne_new Bg1 hg; have GEg2 := ge_new HS hg; clear hg; replace Bg0 := Bg0.below hl; replace Bg1 := Bg1.below hl; replace HS := HS.below hl; have Bg2 := hn; clear hl hn; have kg0_0 := Bg0.at 0 rfl; have kg1_6 := Bg1.at 6 rfl))
 refine start_ (n := 5) (S := fun w' => w'.cell? ⟨g1, 6, none⟩ = some (.int .u64 g_6) ∧ Blk w' g0 26 [.int .i64 p0, .slice A1 l1.length k1, .int .u64 p2, .int .u64 p3, .int .u64 p4, .int .u64 p5, .int .u64 p6, .int .u64 p7, .int .u64 p8, .int .u64 p9]) (ds := []) (bs 5 0) (by kernel_rfl) rfl rfl ⟨((Bg1.drew.cell 6).trans rfl), Bg0.drew⟩ (fun hHeld => ?_)
 generalize hWd : World.drew w3 = w4 at hHeld ⊢
 have hl : Below w3.heap.size w3 w4 := (by rw [← hWd]; exact below_drew1 (Below.refl _ _))
 clear hWd
 replace Bg0 := Bg0.below hl; replace Bg1 := Bg1.below hl; replace Bg2 := Bg2.below hl; replace HS := HS.below hl; clear hl; replace kg0_0 := Bg0.at 0 rfl; replace kg1_6 := Bg1.at 6 rfl
 refine pu 0 16 (.pointer (some ⟨g1, 6, none⟩)) 1 rfl rfl (by kernel_rfl) (fun _ _ _ h => h) (by rfl) (fun _ => by kernel_rfl) rfl ?_
 refine norm_ (a' := ?_) ?_ ?_
 rotate_left
 ·simp only [Act.put, zA_, z0_, z1_, i64_w, i32_w]
  rfl
 refine take_ (i := 1) (N := some 17) (v := ?_) (a' := ?_) (bs 5 3) rfl rfl (by kernel_rfl) (fun _ _ _ h => h) (Or.inl ⟨by rfl, ?_⟩) hHeld ?_ ?_
 rotate_left
 ·rintro w' ⟨s0, s1⟩
  go_simp
  with_reducible rfl
 rotate_left
 ·simp only [Act.put, zA_, z0_, z1_, i64_w, i32_w]
  rfl
 refine take_ (i := 2) (N := some 18) (v := .agg #[.int .i64 p0, .slice A1 l1.length k1, .int .u64 p2, .int .u64 p3, .int .u64 p4, .int .u64 p5, .int .u64 p6, .int .u64 p7, .int .u64 p8, .int .u64 p9]) (a' := ?_) (bs 5 7) rfl rfl (by kernel_rfl) (fun _ _ _ h => h) (Or.inl ⟨by rfl, ?_⟩) hHeld ?_ ?_
 ·rintro w' ⟨s0, s1⟩
  exact exec_seg_load 26 (.tmp 3) (by rfl) g0 0 [.int .i64 p0, .slice A1 l1.length k1, .int .u64 p2, .int .u64 p3, .int .u64 p4, .int .u64 p5, .int .u64 p6, .int .u64 p7, .int .u64 p8, .int .u64 p9] (by rfl) s1 (by rfl) Try.underlying26 (by rfl) (by kernel_rfl)
 rotate_left
 ·simp only [Act.put, zA_, z0_, z1_, i64_w, i32_w]
  rfl
 refine one_ (i := 3) (N := some 19) (bs 5 15) rfl rfl (by kernel_rfl) (by decide) (fun K hK => ?_)
 refine goes_ Try.func18 (by kernel_rfl) rfl #[.agg #[.int .i64 p0, .slice A1 l1.length k1, .int .u64 p2, .int .u64 p3, .int .u64 p4, .int .u64 p5, .int .u64 p6, .int .u64 p7, .int .u64 p8, .int .u64 p9], .int .u64 256] (by rfl) rfl rfl (by simp only [List.map_toArray, List.map_cons, List.map_nil]; rfl) ?_
 with_reducible refine (rprodC p0 p2 p3 p4 p5 p6 p7 p8 p9 256 A1 k1 l1 hw1 Wp2 (by decide) _ (Kd.C_below hr1 HS.out) hk1).mono ?_
 rintro e w5 ⟨rfl, hl⟩
 refine ⟨_, rfl, ?_⟩
 replace Bg0 := Bg0.below hl; replace Bg1 := Bg1.below hl; replace Bg2 := Bg2.below hl; replace HS := HS.below hl; clear hl; replace kg0_0 := Bg0.at 0 rfl; replace kg1_6 := Bg1.at 6 rfl
 refine hK.out _ _ ⟨((Bg1.cell 6).trans rfl), Bg0⟩ (fun hHeld => ?_)
 clear hK K
 refine norm_ (a' := ?_) ?_ ?_
 rotate_left
 ·show Act.put _ (some 19) _ = _
  simp only [Act.put, zA_, z0_, z1_, i64_w, i32_w]
  rfl
 refine pure_ (i := 4) (N := some 20) (v := ?_) (a' := ?_) (bs 5 31) rfl rfl (by kernel_rfl) (fun _ _ _ h => h) (Or.inl ⟨by rfl, ?_⟩) ?_ ?_
 rotate_left
 ·intro w'
  go_simp
  with_reducible rfl
 rotate_left
 ·simp only [Act.put, zA_, z0_, z1_, i64_w, i32_w]
  rfl
 refine done_ (by kernel_rfl) ?_
 clear kg0_0 kg1_6
 go_wp2_with (first | (refine seg_store rfl rfl 3 (.tmp 21) (.const (.int .i64 2)) rfl g0 0 [.int .i64 2] [.int .i64 2, .slice A1 l1.length k1, .int .u64 p2, .int .u64 p3, .int .u64 p4, .int .u64 p5, .int .u64 p6, .int .u64 p7, .int .u64 p8, .int .u64 p9] (.int .i64 2) rfl rfl rfl Bg0 (by kernel_rfl) (nle rfl) rfl rfl ?_; intro w6 hn hw; replace Bg1 := Bg1.grown hw Ng1_g0; replace Bg2 := Bg2.grown hw Ng2_g0; replace HS := HS.grown hw GEg0; replace Bg0 := hn; clear hw; clear hn) | (refine seg_store rfl rfl 24 (.tmp 22) (.const (.int .u64 0)) rfl g0 7 [.int .u64 0] [.int .i64 2, .slice A1 l1.length k1, .int .u64 p2, .int .u64 p3, .int .u64 p4, .int .u64 p5, .int .u64 p6, .int .u64 0, .int .u64 p8, .int .u64 p9] (.int .u64 0) rfl rfl rfl Bg0 (by kernel_rfl) (nle rfl) rfl rfl ?_; intro w7 hn hw; replace Bg1 := Bg1.grown hw Ng1_g0; replace Bg2 := Bg2.grown hw Ng2_g0; replace HS := HS.grown hw GEg0; replace Bg0 := hn; clear hw; have kg1_0 := Bg1.at 0 rfl; clear hn) | (refine seg_store rfl rfl 24 (.tmp 25) (.tmp 24) rfl g0 8 [.int .u64 g_0] [.int .i64 2, .slice A1 l1.length k1, .int .u64 p2, .int .u64 p3, .int .u64 p4, .int .u64 p5, .int .u64 p6, .int .u64 0, .int .u64 g_0, .int .u64 p9] (.int .u64 g_0) rfl rfl rfl Bg0 (by kernel_rfl) (nle rfl) rfl rfl ?_; intro w8 hn hw; replace Bg1 := Bg1.grown hw Ng1_g0; replace Bg2 := Bg2.grown hw Ng2_g0; replace HS := HS.grown hw GEg0; replace Bg0 := hn; clear hw; clear kg1_0; clear hn) | (refine seg_load rfl (N := 61) rfl 26 (.tmp 3) rfl g0 0 [.int .i64 2, .slice A1 l1.length k1, .int .u64 p2, .int .u64 p3, .int .u64 p4, .int .u64 p5, .int .u64 p6, .int .u64 0, .int .u64 g_0, .int .u64 p9] rfl Bg0 rfl Try.underlying26 rfl (by kernel_rfl) ?_) | (refine seg_store rfl rfl 26 (.tmp 6) (.tmp 61) rfl g2 0 [.int .i64 2, .slice A1 l1.length k1, .int .u64 p2, .int .u64 p3, .int .u64 p4, .int .u64 p5, .int .u64 p6, .int .u64 0, .int .u64 g_0, .int .u64 p9] [.int .i64 2, .slice A1 l1.length k1, .int .u64 p2, .int .u64 p3, .int .u64 p4, .int .u64 p5, .int .u64 p6, .int .u64 0, .int .u64 g_0, .int .u64 p9] (.agg #[.int .i64 2, .slice A1 l1.length k1, .int .u64 p2, .int .u64 p3, .int .u64 p4, .int .u64 p5, .int .u64 p6, .int .u64 0, .int .u64 g_0, .int .u64 p9]) rfl rfl rfl Bg2 (by kernel_rfl) (nle rfl) rfl rfl ?_; intro w9 hn hw; replace Bg0 := Bg0.grown hw Ng2_g0.symm; replace Bg1 := Bg1.grown hw Ng2_g1.symm; replace HS := HS.grown hw GEg2; replace Bg2 := hn; clear hw; clear hn))
 all_goals exact bodyPost_ret (results_cell1 rfl _ _ g2 26 [.int .i64 2, .slice A1 l1.length k1, .int .u64 p2, .int .u64 p3, .int .u64 p4, .int .u64 p5, .int .u64 p6, .int .u64 0, .int .u64 g_0, .int .u64 p9] _ rfl Bg2 Try.underlying26 rfl (by kernel_rfl)) rfl ⟨rfl, HS.out⟩
theorem rmove_2 (p0 p2 p3 p4 p5 p6 p7 p8 p9 g_0 g_1 g_2 g_3 g_4 g_5 g_6 g_7 : Int) (g_8 g_9 stale : Bool) (A1 : Option Addr) (k1 : Nat) (Wp2 : W64 p2) (w : World) (l1 : List S52) (hr1 : Kd.C k52 w A1 l1.length l1) (hk1 : l1.length ≤ k1) (hw1 : SWf l1) (h0 : (p0 == 0) = false) (h1 : (p0 == 1) = true) (h2 : (decide (g_6 ≤ uProd l1 p2 256)) = false) :
  Calls Try.prog 34 #[.agg #[.int .i64 p0, .slice A1 l1.length k1, .int .u64 p2, .int .u64 p3, .int .u64 p4, .int .u64 p5, .int .u64 p6, .int .u64 p7, .int .u64 p8, .int .u64 p9], .agg #[.int .u64 g_0, .int .u64 g_1, .int .u64 g_2, .int .u64 g_3, .int .u64 g_4, .int .u64 g_5, .int .u64 g_6, .int .u64 g_7, .bool g_8, .bool g_9], .bool stale] w fun e w' => e = .returned (.agg #[.int .i64 p0, .slice A1 l1.length k1, .int .u64 p2, .int .u64 p3, .int .u64 p4, .int .u64 p5, .int .u64 p6, .int .u64 p7, .int .u64 p8, .int .u64 p9]) ∧ Below w.heap.size w w' := by
 have hu26 := Try.underlying26
 have hu28 := Try.underlying28
 have HS := Since.refl w
 go_enter Try.func34, Try.ntmps34
 go_wp2_with (first | (refine seg_new rfl (N := 3) rfl [.int .i64 p0, .slice A1 l1.length k1, .int .u64 p2, .int .u64 p3, .int .u64 p4, .int .u64 p5, .int .u64 p6, .int .u64 p7, .int .u64 p8, .int .u64 p9] 26 ?hr ?_; (case hr => rfl); intro g0 hg w1 hn hl; have GEg0 := ge_new HS hg; clear hg; replace HS := HS.below hl; have Bg0 := hn; clear hl hn) | (refine seg_new rfl (N := 4) rfl [.int .u64 g_0, .int .u64 g_1, .int .u64 g_2, .int .u64 g_3, .int .u64 g_4, .int .u64 g_5, .int .u64 g_6, .int .u64 g_7, .bool g_8, .bool g_9] 28 ?hr ?_; (case hr => rfl); intro g1 hg w2 hn hl; have Ng1_g0 := ne_new Bg0 hg; have GEg1 := ge_new HS hg; clear hg; replace Bg0 := Bg0.below hl; replace HS := HS.below hl; have Bg1 := hn; clear hl hn) | (refine seg_new rfl (N := 6) rfl [.int .i64 0, .slice none 0 0, .int .u64 0, .int .u64 0, .int .u64 0, .int .u64 0, .int .u64 0, .int .u64 0, .int .u64 0, .int .u64 0] 26 ?hr ?_; (case hr => rfl); intro g2 hg w3 hn hl; have Ng2_g0 := ne_new Bg0 hg; have Ng2_g1 := ne_new Bg1 hg; have GEg2 := ge_new HS hg; clear hg; replace Bg0 := Bg0.below hl; replace Bg1 := Bg1.below hl; replace HS := HS.below hl; have Bg2 := hn; clear hl hn; have kg0_0 := Bg0.at 0 rfl; have kg1_6 := Bg1.at 6 rfl))
 refine start_ (n := 5) (S := fun w' => w'.cell? ⟨g1, 6, none⟩ = some (.int .u64 g_6) ∧ Blk w' g0 26 [.int .i64 p0, .slice A1 l1.length k1, .int .u64 p2, .int .u64 p3, .int .u64 p4, .int .u64 p5, .int .u64 p6, .int .u64 p7, .int .u64 p8, .int .u64 p9]) (ds := []) (bs 5 0) (by kernel_rfl) rfl rfl ⟨((Bg1.drew.cell 6).trans rfl), Bg0.drew⟩ (fun hHeld => ?_)
 generalize hWd : World.drew w3 = w4 at hHeld ⊢
 have hl : Below w3.heap.size w3 w4 := (by rw [← hWd]; exact below_drew1 (Below.refl _ _))
 clear hWd
 replace Bg0 := Bg0.below hl; replace Bg1 := Bg1.below hl; replace Bg2 := Bg2.below hl; replace HS := HS.below hl; clear hl; replace kg0_0 := Bg0.at 0 rfl; replace kg1_6 := Bg1.at 6 rfl
 refine pu 0 16 (.pointer (some ⟨g1, 6, none⟩)) 1 rfl rfl (by kernel_rfl) (fun _ _ _ h => h) (by rfl) (fun _ => by kernel_rfl) rfl ?_
 refine norm_ (a' := ?_) ?_ ?_
 rotate_left
 ·simp only [Act.put, zA_, z0_, z1_, i64_w, i32_w]
  rfl
 refine take_ (i := 1) (N := some 17) (v := ?_) (a' := ?_) (bs 5 3) rfl rfl (by kernel_rfl) (fun _ _ _ h => h) (Or.inl ⟨by rfl, ?_⟩) hHeld ?_ ?_
 rotate_left
 ·rintro w' ⟨s0, s1⟩
  go_simp
  with_reducible rfl
 rotate_left
 ·simp only [Act.put, zA_, z0_, z1_, i64_w, i32_w]
  rfl
 refine take_ (i := 2) (N := some 18) (v := .agg #[.int .i64 p0, .slice A1 l1.length k1, .int .u64 p2, .int .u64 p3, .int .u64 p4, .int .u64 p5, .int .u64 p6, .int .u64 p7, .int .u64 p8, .int .u64 p9]) (a' := ?_) (bs 5 7) rfl rfl (by kernel_rfl) (fun _ _ _ h => h) (Or.inl ⟨by rfl, ?_⟩) hHeld ?_ ?_
 ·rintro w' ⟨s0, s1⟩
  exact exec_seg_load 26 (.tmp 3) (by rfl) g0 0 [.int .i64 p0, .slice A1 l1.length k1, .int .u64 p2, .int .u64 p3, .int .u64 p4, .int .u64 p5, .int .u64 p6, .int .u64 p7, .int .u64 p8, .int .u64 p9] (by rfl) s1 (by rfl) Try.underlying26 (by rfl) (by kernel_rfl)
 rotate_left
 ·simp only [Act.put, zA_, z0_, z1_, i64_w, i32_w]
  rfl
 refine one_ (i := 3) (N := some 19) (bs 5 15) rfl rfl (by kernel_rfl) (by decide) (fun K hK => ?_)
 refine goes_ Try.func18 (by kernel_rfl) rfl #[.agg #[.int .i64 p0, .slice A1 l1.length k1, .int .u64 p2, .int .u64 p3, .int .u64 p4, .int .u64 p5, .int .u64 p6, .int .u64 p7, .int .u64 p8, .int .u64 p9], .int .u64 256] (by rfl) rfl rfl (by simp only [List.map_toArray, List.map_cons, List.map_nil]; rfl) ?_
 with_reducible refine (rprodC p0 p2 p3 p4 p5 p6 p7 p8 p9 256 A1 k1 l1 hw1 Wp2 (by decide) _ (Kd.C_below hr1 HS.out) hk1).mono ?_
 rintro e w5 ⟨rfl, hl⟩
 refine ⟨_, rfl, ?_⟩
 replace Bg0 := Bg0.below hl; replace Bg1 := Bg1.below hl; replace Bg2 := Bg2.below hl; replace HS := HS.below hl; clear hl; replace kg0_0 := Bg0.at 0 rfl; replace kg1_6 := Bg1.at 6 rfl
 refine hK.out _ _ ⟨((Bg1.cell 6).trans rfl), Bg0⟩ (fun hHeld => ?_)
 clear hK K
 refine norm_ (a' := ?_) ?_ ?_
 rotate_left
 ·show Act.put _ (some 19) _ = _
  simp only [Act.put, zA_, z0_, z1_, i64_w, i32_w]
  rfl
 refine pure_ (i := 4) (N := some 20) (v := ?_) (a' := ?_) (bs 5 31) rfl rfl (by kernel_rfl) (fun _ _ _ h => h) (Or.inl ⟨by rfl, ?_⟩) ?_ ?_
 rotate_left
 ·intro w'
  go_simp
  with_reducible rfl
 rotate_left
 ·simp only [Act.put, zA_, z0_, z1_, i64_w, i32_w]
  rfl
 refine done_ (by kernel_rfl) ?_
 clear kg0_0 kg1_6
 go_wp2_with (first | (refine seg_load rfl (N := 61) rfl 26 (.tmp 3) rfl g0 0 [.int .i64 p0, .slice A1 l1.length k1, .int .u64 p2, .int .u64 p3, .int .u64 p4, .int .u64 p5, .int .u64 p6, .int .u64 p7, .int .u64 p8, .int .u64 p9] rfl Bg0 rfl Try.underlying26 rfl (by kernel_rfl) ?_) | (refine seg_store rfl rfl 26 (.tmp 6) (.tmp 61) rfl g2 0 [.int .i64 p0, .slice A1 l1.length k1, .int .u64 p2, .int .u64 p3, .int .u64 p4, .int .u64 p5, .int .u64 p6, .int .u64 p7, .int .u64 p8, .int .u64 p9] [.int .i64 p0, .slice A1 l1.length k1, .int .u64 p2, .int .u64 p3, .int .u64 p4, .int .u64 p5, .int .u64 p6, .int .u64 p7, .int .u64 p8, .int .u64 p9] (.agg #[.int .i64 p0, .slice A1 l1.length k1, .int .u64 p2, .int .u64 p3, .int .u64 p4, .int .u64 p5, .int .u64 p6, .int .u64 p7, .int .u64 p8, .int .u64 p9]) rfl rfl rfl Bg2 (by kernel_rfl) (nle rfl) rfl rfl ?_; intro w6 hn hw; replace Bg0 := Bg0.grown hw Ng2_g0.symm; replace Bg1 := Bg1.grown hw Ng2_g1.symm; replace HS := HS.grown hw GEg2; replace Bg2 := hn; clear hw; clear hn))
 all_goals exact bodyPost_ret (results_cell1 rfl _ _ g2 26 [.int .i64 p0, .slice A1 l1.length k1, .int .u64 p2, .int .u64 p3, .int .u64 p4, .int .u64 p5, .int .u64 p6, .int .u64 p7, .int .u64 p8, .int .u64 p9] _ rfl Bg2 Try.underlying26 rfl (by kernel_rfl)) rfl ⟨rfl, HS.out⟩
theorem rmove_3 (p0 p2 p3 p4 p5 p6 p7 p8 p9 g_0 g_1 g_2 g_3 g_4 g_5 g_6 g_7 : Int) (g_8 g_9 : Bool) (A1 : Option Addr) (k1 : Nat)  (w : World) (l1 : List S52) (hr1 : Kd.C k52 w A1 l1.length l1) (hk1 : l1.length ≤ k1) (hw1 : SWf l1) (h0 : (p0 == 0) = false) (h1 : (p0 == 1) = false) (h2 : (p0 == 2) = true) :
  Calls Try.prog 34 #[.agg #[.int .i64 p0, .slice A1 l1.length k1, .int .u64 p2, .int .u64 p3, .int .u64 p4, .int .u64 p5, .int .u64 p6, .int .u64 p7, .int .u64 p8, .int .u64 p9], .agg #[.int .u64 g_0, .int .u64 g_1, .int .u64 g_2, .int .u64 g_3, .int .u64 g_4, .int .u64 g_5, .int .u64 g_6, .int .u64 g_7, .bool g_8, .bool g_9], .bool true] w fun e w' => e = .returned (.agg #[.int .i64 3, .slice A1 l1.length k1, .int .u64 p2, .int .u64 p3, .int .u64 p4, .int .u64 p5, .int .u64 p6, .int .u64 p7, .int .u64 g_0, .int .u64 p9]) ∧ Below w.heap.size w w' := by
 have hu26 := Try.underlying26
 have hu28 := Try.underlying28
 have HS := Since.refl w
 go_enter Try.func34, Try.ntmps34
 go_wp2_with (first | (refine seg_new rfl (N := 3) rfl [.int .i64 p0, .slice A1 l1.length k1, .int .u64 p2, .int .u64 p3, .int .u64 p4, .int .u64 p5, .int .u64 p6, .int .u64 p7, .int .u64 p8, .int .u64 p9] 26 ?hr ?_; (case hr => rfl); intro g0 hg w1 hn hl; have GEg0 := ge_new HS hg; clear hg; replace HS := HS.below hl; have Bg0 := hn; clear hl hn) | (refine seg_new rfl (N := 4) rfl [.int .u64 g_0, .int .u64 g_1, .int .u64 g_2, .int .u64 g_3, .int .u64 g_4, .int .u64 g_5, .int .u64 g_6, .int .u64 g_7, .bool g_8, .bool g_9] 28 ?hr ?_; (case hr => rfl); intro g1 hg w2 hn hl; have Ng1_g0 := ne_new Bg0 hg; have GEg1 := ge_new HS hg; clear hg; replace Bg0 := Bg0.below hl; replace HS := HS.below hl; have Bg1 := hn; clear hl hn) | (refine seg_new rfl (N := 6) rfl [.int .i64 0, .slice none 0 0, .int .u64 0, .int .u64 0, .int .u64 0, .int .u64 0, .int .u64 0, .int .u64 0, .int .u64 0, .int .u64 0] 26 ?hr ?_; (case hr => rfl); intro g2 hg w3 hn hl; have Ng2_g0 := ne_new Bg0 hg; have Ng2_g1 := ne_new Bg1 hg; have GEg2 := ge_new HS hg; clear hg; replace Bg0 := Bg0.below hl; replace Bg1 := Bg1.below hl; replace HS := HS.below hl; have Bg2 := hn; clear hl hn; have kg0_0 := Bg0.at 0 rfl) | (refine seg_store rfl rfl 3 (.tmp 29) (.const (.int .i64 3)) rfl g0 0 [.int .i64 3] [.int .i64 3, .slice A1 l1.length k1, .int .u64 p2, .int .u64 p3, .int .u64 p4, .int .u64 p5, .int .u64 p6, .int .u64 p7, .int .u64 p8, .int .u64 p9] (.int .i64 3) rfl rfl rfl Bg0 (by kernel_rfl) (nle rfl) rfl rfl ?_; intro w4 hn hw; replace Bg1 := Bg1.grown hw Ng1_g0; replace Bg2 := Bg2.grown hw Ng2_g0; replace HS := HS.grown hw GEg0; replace Bg0 := hn; clear hw; clear kg0_0; have kg1_0 := Bg1.at 0 rfl; clear hn) | (refine seg_store rfl rfl 24 (.tmp 32) (.tmp 31) rfl g0 8 [.int .u64 g_0] [.int .i64 3, .slice A1 l1.length k1, .int .u64 p2, .int .u64 p3, .int .u64 p4, .int .u64 p5, .int .u64 p6, .int .u64 p7, .int .u64 g_0, .int .u64 p9] (.int .u64 g_0) rfl rfl rfl Bg0 (by kernel_rfl) (nle rfl) rfl rfl ?_; intro w5 hn hw; replace Bg1 := Bg1.grown hw Ng1_g0; replace Bg2 := Bg2.grown hw Ng2_g0; replace HS := HS.grown hw GEg0; replace Bg0 := hn; clear hw; clear kg1_0; clear hn) | (refine seg_load rfl (N := 61) rfl 26 (.tmp 3) rfl g0 0 [.int .i64 3, .slice A1 l1.length k1, .int .u64 p2, .int .u64 p3, .int .u64 p4, .int .u64 p5, .int .u64 p6, .int .u64 p7, .int .u64 g_0, .int .u64 p9] rfl Bg0 rfl Try.underlying26 rfl (by kernel_rfl) ?_) | (refine seg_store rfl rfl 26 (.tmp 6) (.tmp 61) rfl g2 0 [.int .i64 3, .slice A1 l1.length k1, .int .u64 p2, .int .u64 p3, .int .u64 p4, .int .u64 p5, .int .u64 p6, .int .u64 p7, .int .u64 g_0, .int .u64 p9] [.int .i64 3, .slice A1 l1.length k1, .int .u64 p2, .int .u64 p3, .int .u64 p4, .int .u64 p5, .int .u64 p6, .int .u64 p7, .int .u64 g_0, .int .u64 p9] (.agg #[.int .i64 3, .slice A1 l1.length k1, .int .u64 p2, .int .u64 p3, .int .u64 p4, .int .u64 p5, .int .u64 p6, .int .u64 p7, .int .u64 g_0, .int .u64 p9]) rfl rfl rfl Bg2 (by kernel_rfl) (nle rfl) rfl rfl ?_; intro w6 hn hw; replace Bg0 := Bg0.grown hw Ng2_g0.symm; replace Bg1 := Bg1.grown hw Ng2_g1.symm; replace HS := HS.grown hw GEg2; replace Bg2 := hn; clear hw; clear hn))
 all_goals exact bodyPost_ret (results_cell1 rfl _ _ g2 26 [.int .i64 3, .slice A1 l1.length k1, .int .u64 p2, .int .u64 p3, .int .u64 p4, .int .u64 p5, .int .u64 p6, .int .u64 p7, .int .u64 g_0, .int .u64 p9] _ rfl Bg2 Try.underlying26 rfl (by kernel_rfl)) rfl ⟨rfl, HS.out⟩
theorem rmove_4 (p0 p2 p3 p4 p5 p6 p7 p8 p9 g_0 g_1 g_2 g_3 g_4 g_5 g_6 g_7 : Int) (g_8 g_9 : Bool) (A1 : Option Addr) (k1 : Nat) (Wp2 : W64 p2) (Wp7 : W64 p7) (Wp8 : W64 p8) (w : World) (l1 : List S52) (hr1 : Kd.C k52 w A1 l1.length l1) (hk1 : l1.length ≤ k1) (hw1 : SWf l1) (h0 : (p0 == 0) = false) (h1 : (p0 == 1) = false) (h2 : (p0 == 2) = true) (h3 : (decide (uAdd p8 p2 ≤ g_0)) = true) :
  Calls Try.prog 34 #[.agg #[.int .i64 p0, .slice A1 l1.length k1, .int .u64 p2, .int .u64 p3, .int .u64 p4, .int .u64 p5, .int .u64 p6, .int .u64 p7, .int .u64 p8, .int .u64 p9], .agg #[.int .u64 g_0, .int .u64 g_1, .int .u64 g_2, .int .u64 g_3, .int .u64 g_4, .int .u64 g_5, .int .u64 g_6, .int .u64 g_7, .bool g_8, .bool g_9], .bool false] w fun e w' => e = .returned (.agg #[.int .i64 p0, .slice A1 l1.length k1, .int .u64 p2, .int .u64 p3, .int .u64 p4, .int .u64 p5, .int .u64 p6, .int .u64 (uAdd p7 1), .int .u64 g_0, .int .u64 p9]) ∧ Below w.heap.size w w' := by
 have hu26 := Try.underlying26
 have hu28 := Try.underlying28
 have HS := Since.refl w
 go_enter Try.func34, Try.ntmps34
 go_wp2_with (first | (refine seg_new rfl (N := 3) rfl [.int .i64 p0, .slice A1 l1.length k1, .int .u64 p2, .int .u64 p3, .int .u64 p4, .int .u64 p5, .int .u64 p6, .int .u64 p7, .int .u64 p8, .int .u64 p9] 26 ?hr ?_; (case hr => rfl); intro g0 hg w1 hn hl; have GEg0 := ge_new HS hg; clear hg; replace HS := HS.below hl; have Bg0 := hn; clear hl hn) | (refine seg_new rfl (N := 4) rfl [.int .u64 g_0, .int .u64 g_1, .int .u64 g_2, .int .u64 g_3, .int .u64 g_4, .int .u64 g_5, .int .u64 g_6, .int .u64 g_7, .bool g_8, .bool g_9] 28 ?hr ?_; (case hr => rfl); intro g1 hg w2 hn hl; have Ng1_g0 := ne_new Bg0 hg; have GEg1 := ge_new HS hg; clear hg; replace Bg0 := Bg0.below hl; replace HS := HS.below hl; have Bg1 := hn; clear hl hn) | (refine seg_new rfl (N := 6) rfl [.int .i64 0, .slice none 0 0, .int .u64 0, .int .u64 0, .int .u64 0, .int .u64 0, .int .u64 0, .int .u64 0, .int .u64 0, .int .u64 0] 26 ?hr ?_; (case hr => rfl); intro g2 hg w3 hn hl; have Ng2_g0 := ne_new Bg0 hg; have Ng2_g1 := ne_new Bg1 hg; have GEg2 := ge_new HS hg; clear hg; replace Bg0 := Bg0.below hl; replace Bg1 := Bg1.below hl; replace HS := HS.below hl; have Bg2 := hn; clear hl hn; have kg0_0 := Bg0.at 0 rfl; have kg0_2 := Bg0.at 2 rfl; have kg0_8 := Bg0.at 8 rfl; have kg1_0 := Bg1.at 0 rfl))
 all_goals go_quiet (first | (go_at_call 30; with_reducible exact wigwagref01_AddT.Q p8 p2 Wp8 Wp2 _ _))
 all_goals (generalize hW : World.drewN w3 _ = w4; have hl : Below w3.heap.size w3 w4 := (by rw [← hW]; exact pw_below_drewN (Below.refl _ _) _); clear hW; replace Bg0 := Bg0.below hl; replace Bg1 := Bg1.below hl; replace Bg2 := Bg2.below hl; replace HS := HS.below hl; clear hl; clear kg0_0 kg0_2 kg0_8 kg1_0; have kg0_7 := Bg0.at 7 rfl)
 go_wp2_with (first | ((go_at_call 30); (with_reducible refine (wigwagref01_AddT.C p7 1 Wp7 (by decide) _).mono ?_); rintro e w5 ⟨rfl, hd⟩; have hl := hd.below; clear hd; replace Bg0 := Bg0.below hl; replace Bg1 := Bg1.below hl; replace Bg2 := Bg2.below hl; replace HS := HS.below hl; clear hl; clear kg0_7) | (refine seg_store rfl rfl 24 (.tmp 44) (.tmp 43) rfl g0 7 [.int .u64 (uAdd p7 1)] [.int .i64 p0, .slice A1 l1.length k1, .int .u64 p2, .int .u64 p3, .int .u64 p4, .int .u64 p5, .int .u64 p6, .int .u64 (uAdd p7 1), .int .u64 p8, .int .u64 p9] (.int .u64 (uAdd p7 1)) rfl rfl rfl Bg0 (by kernel_rfl) (nle rfl) rfl rfl ?_; intro w6 hn hw; replace Bg1 := Bg1.grown hw Ng1_g0; replace Bg2 := Bg2.grown hw Ng2_g0; replace HS := HS.grown hw GEg0; replace Bg0 := hn; clear hw; have kg1_0 := Bg1.at 0 rfl; clear hn) | (refine seg_store rfl rfl 24 (.tmp 47) (.tmp 46) rfl g0 8 [.int .u64 g_0] [.int .i64 p0, .slice A1 l1.length k1, .int .u64 p2, .int .u64 p3, .int .u64 p4, .int .u64 p5, .int .u64 p6, .int .u64 (uAdd p7 1), .int .u64 g_0, .int .u64 p9] (.int .u64 g_0) rfl rfl rfl Bg0 (by kernel_rfl) (nle rfl) rfl rfl ?_; intro w7 hn hw; replace Bg1 := Bg1.grown hw Ng1_g0; replace Bg2 := Bg2.grown hw Ng2_g0; replace HS := HS.grown hw GEg0; replace Bg0 := hn; clear hw; clear kg1_0; clear hn) | (refine seg_load rfl (N := 61) rfl 26 (.tmp 3) rfl g0 0 [.int .i64 p0, .slice A1 l1.length k1, .int .u64 p2, .int .u64 p3, .int .u64 p4, .int .u64 p5, .int .u64 p6, .int .u64 (uAdd p7 1), .int .u64 g_0, .int .u64 p9] rfl Bg0 rfl Try.underlying26 rfl (by kernel_rfl) ?_) | (refine seg_store rfl rfl 26 (.tmp 6) (.tmp 61) rfl g2 0 [.int .i64 p0, .slice A1 l1.length k1, .int .u64 p2, .int .u64 p3, .int .u64 p4, .int .u64 p5, .int .u64 p6, .int .u64 (uAdd p7 1), .int .u64 g_0, .int .u64 p9] [.int .i64 p0, .slice A1 l1.length k1, .int .u64 p2, .int .u64 p3, .int .u64 p4, .int .u64 p5, .int .u64 p6, .int .u64 (uAdd p7 1), .int .u64 g_0, .int .u64 p9] (.agg #[.int .i64 p0, .slice A1 l1.length k1, .int .u64 p2, .int .u64 p3, .int .u64 p4, .int .u64 p5, .int .u64 p6, .int .u64 (uAdd p7 1), .int .u64 g_0, .int .u64 p9]) rfl rfl rfl Bg2 (by kernel_rfl) (nle rfl) rfl rfl ?_; intro w8 hn hw; replace Bg0 := Bg0.grown hw Ng2_g0.symm; replace Bg1 := Bg1.grown hw Ng2_g1.symm; replace HS := HS.grown hw GEg2; replace Bg2 := hn; clear hw; clear hn))
 all_goals exact bodyPost_ret (results_cell1 rfl _ _ g2 26 [.int .i64 p0, .slice A1 l1.length k1, .int .u64 p2, .int .u64 p3, .int .u64 p4, .int .u64 p5, .int .u64 p6, .int .u64 (uAdd p7 1), .int .u64 g_0, .int .u64 p9] _ rfl Bg2 Try.underlying26 rfl (by kernel_rfl)) rfl ⟨rfl, HS.out⟩
theorem rmove_5 (p0 p2 p3 p4 p5 p6 p7 p8 p9 g_0 g_1 g_2 g_3 g_4 g_5 g_6 g_7 : Int) (g_8 g_9 : Bool) (A1 : Option Addr) (k1 : Nat) (Wp2 : W64 p2) (Wp8 : W64 p8) (w : World) (l1 : List S52) (hr1 : Kd.C k52 w A1 l1.length l1) (hk1 : l1.length ≤ k1) (hw1 : SWf l1) (h0 : (p0 == 0) = false) (h1 : (p0 == 1) = false) (h2 : (p0 == 2) = true) (h3 : (decide (uAdd p8 p2 ≤ g_0)) = false) :
  Calls Try.prog 34 #[.agg #[.int .i64 p0, .slice A1 l1.length k1, .int .u64 p2, .int .u64 p3, .int .u64 p4, .int .u64 p5, .int .u64 p6, .int .u64 p7, .int .u64 p8, .int .u64 p9], .agg #[.int .u64 g_0, .int .u64 g_1, .int .u64 g_2, .int .u64 g_3, .int .u64 g_4, .int .u64 g_5, .int .u64 g_6, .int .u64 g_7, .bool g_8, .bool g_9], .bool false] w fun e w' => e = .returned (.agg #[.int .i64 p0, .slice A1 l1.length k1, .int .u64 p2, .int .u64 p3, .int .u64 p4, .int .u64 p5, .int .u64 p6, .int .u64 p7, .int .u64 p8, .int .u64 p9]) ∧ Below w.heap.size w w' := by
 have hu26 := Try.underlying26
 have hu28 := Try.underlying28
 have HS := Since.refl w
 go_enter Try.func34, Try.ntmps34
 go_wp2_with (first | (refine seg_new rfl (N := 3) rfl [.int .i64 p0, .slice A1 l1.length k1, .int .u64 p2, .int .u64 p3, .int .u64 p4, .int .u64 p5, .int .u64 p6, .int .u64 p7, .int .u64 p8, .int .u64 p9] 26 ?hr ?_; (case hr => rfl); intro g0 hg w1 hn hl; have GEg0 := ge_new HS hg; clear hg; replace HS := HS.below hl; have Bg0 := hn; clear hl hn) | (refine seg_new rfl (N := 4) rfl [.int .u64 g_0, .int .u64 g_1, .int .u64 g_2, .int .u64 g_3, .int .u64 g_4, .int .u64 g_5, .int .u64 g_6, .int .u64 g_7, .bool g_8, .bool g_9] 28 ?hr ?_; (case hr => rfl); intro g1 hg w2 hn hl; have Ng1_g0 := ne_new Bg0 hg; have GEg1 := ge_new HS hg; clear hg; replace Bg0 := Bg0.below hl; replace HS := HS.below hl; have Bg1 := hn; clear hl hn) | (refine seg_new rfl (N := 6) rfl [.int .i64 0, .slice none 0 0, .int .u64 0, .int .u64 0, .int .u64 0, .int .u64 0, .int .u64 0, .int .u64 0, .int .u64 0, .int .u64 0] 26 ?hr ?_; (case hr => rfl); intro g2 hg w3 hn hl; have Ng2_g0 := ne_new Bg0 hg; have Ng2_g1 := ne_new Bg1 hg; have GEg2 := ge_new HS hg; clear hg; replace Bg0 := Bg0.below hl; replace Bg1 := Bg1.below hl; replace HS := HS.below hl; have Bg2 := hn; clear hl hn; have kg0_0 := Bg0.at 0 rfl; have kg0_2 := Bg0.at 2 rfl; have kg0_8 := Bg0.at 8 rfl; have kg1_0 := Bg1.at 0 rfl))
 all_goals go_quiet (first | (go_at_call 30; with_reducible exact wigwagref01_AddT.Q p8 p2 Wp8 Wp2 _ _))
 all_goals (generalize hW : World.drewN w3 _ = w4; have hl : Below w3.heap.size w3 w4 := (by rw [← hW]; exact pw_below_drewN (Below.refl _ _) _); clear hW; replace Bg0 := Bg0.below hl; replace Bg1 := Bg1.below hl; replace Bg2 := Bg2.below hl; replace HS := HS.below hl; clear hl; clear kg0_0 kg0_2 kg0_8 kg1_0)
 go_wp2_with (first | (refine seg_load rfl (N := 61) rfl 26 (.tmp 3) rfl g0 0 [.int .i64 p0, .slice A1 l1.length k1, .int .u64 p2, .int .u64 p3, .int .u64 p4, .int .u64 p5, .int .u64 p6, .int .u64 p7, .int .u64 p8, .int .u64 p9] rfl Bg0 rfl Try.underlying26 rfl (by kernel_rfl) ?_) | (refine seg_store rfl rfl 26 (.tmp 6) (.tmp 61) rfl g2 0 [.int .i64 p0, .slice A1 l1.length k1, .int .u64 p2, .int .u64 p3, .int .u64 p4, .int .u64 p5, .int .u64 p6, .int .u64 p7, .int .u64 p8, .int .u64 p9] [.int .i64 p0, .slice A1 l1.length k1, .int .u64 p2, .int .u64 p3, .int .u64 p4, .int .u64 p5, .int .u64 p6, .int .u64 p7, .int .u64 p8, .int .u64 p9] (.agg #[.int .i64 p0, .slice A1 l1.length k1, .int .u64 p2, .int .u64 p3, .int .u64 p4, .int .u64 p5, .int .u64 p6, .int .u64 p7, .int .u64 p8, .int .u64 p9]) rfl rfl rfl Bg2 (by kernel_rfl) (nle rfl) rfl rfl ?_; intro w5 hn hw; replace Bg0 := Bg0.grown hw Ng2_g0.symm; replace Bg1 := Bg1.grown hw Ng2_g1.symm; replace HS := HS.grown hw GEg2; replace Bg2 := hn; clear hw; clear hn))
 all_goals exact bodyPost_ret (results_cell1 rfl _ _ g2 26 [.int .i64 p0, .slice A1 l1.length k1, .int .u64 p2, .int .u64 p3, .int .u64 p4, .int .u64 p5, .int .u64 p6, .int .u64 p7, .int .u64 p8, .int .u64 p9] _ rfl Bg2 Try.underlying26 rfl (by kernel_rfl)) rfl ⟨rfl, HS.out⟩
theorem rmove_6 (p0 p2 p3 p4 p5 p6 p7 p8 p9 g_0 g_1 g_2 g_3 g_4 g_5 g_6 g_7 : Int) (g_8 g_9 stale : Bool) (A1 : Option Addr) (k1 : Nat) (Wp8 : W64 p8) (w : World) (l1 : List S52) (hr1 : Kd.C k52 w A1 l1.length l1) (hk1 : l1.length ≤ k1) (hw1 : SWf l1) (h0 : (p0 == 0) = false) (h1 : (p0 == 1) = false) (h2 : (p0 == 2) = false) (h3 : (p0 == 3) = true) (h4 : (decide (uAdd p8 200 ≤ g_0)) = true) :
  Calls Try.prog 34 #[.agg #[.int .i64 p0, .slice A1 l1.length k1, .int .u64 p2, .int .u64 p3, .int .u64 p4, .int .u64 p5, .int .u64 p6, .int .u64 p7, .int .u64 p8, .int .u64 p9], .agg #[.int .u64 g_0, .int .u64 g_1, .int .u64 g_2, .int .u64 g_3, .int .u64 g_4, .int .u64 g_5, .int .u64 g_6, .int .u64 g_7, .bool g_8, .bool g_9], .bool stale] w fun e w' => e = .returned (.agg #[.int .i64 2, .slice A1 l1.length k1, .int .u64 p2, .int .u64 p3, .int .u64 p4, .int .u64 p5, .int .u64 p6, .int .u64 2, .int .u64 g_0, .int .u64 p9]) ∧ Below w.heap.size w w' := by
 have hu26 := Try.underlying26
 have hu28 := Try.underlying28
 have HS := Since.refl w
 go_enter Try.func34, Try.ntmps34
 go_wp2_with (first | (refine seg_new rfl (N := 3) rfl [.int .i64 p0, .slice A1 l1.length k1, .int .u64 p2, .int .u64 p3, .int .u64 p4, .int .u64 p5, .int .u64 p6, .int .u64 p7, .int .u64 p8, .int .u64 p9] 26 ?hr ?_; (case hr => rfl); intro g0 hg w1 hn hl; have GEg0 := ge_new HS hg; clear hg; replace HS := HS.below hl; have Bg0 := hn; clear hl hn) | (refine seg_new rfl (N := 4) rfl [.int .u64 g_0, .int .u64 g_1, .int .u64 g_2, .int .u64 g_3, .int .u64 g_4, .int .u64 g_5, .int .u64 g_6, .int .u64 g_7, .bool g_8, .bool g_9] 28 ?hr ?_; (case hr => rfl); intro g1 hg w2 hn hl; have Ng1_g0 := ne_new Bg0 hg; have GEg1 := ge_new HS hg; clear hg; replace Bg0 := Bg0.below hl; replace HS := HS.below hl; have Bg1 := hn; clear hl hn) | (refine seg_new rfl (N := 6) rfl [.int .i64 0, .slice none 0 0, .int .u64 0, .int .u64 0, .int .u64 0, .int .u64 0, .int .u64 0, .int .u64 0, .int .u64 0, .int .u64 0] 26 ?hr ?_; (case hr => rfl); intro g2 hg w3 hn hl; have Ng2_g0 := ne_new Bg0 hg; have Ng2_g1 := ne_new Bg1 hg; have GEg2 := ge_new HS hg; clear hg; replace Bg0 := Bg0.below hl; replace Bg1 := Bg1.below hl; replace HS := HS.below hl; have Bg2 := hn; clear hl hn; have kg0_0 := Bg0.at 0 rfl; have kg0_8 := Bg0.at 8 rfl; have kg1_0 := Bg1.at 0 rfl))
 all_goals go_quiet (first | (go_at_call 30; with_reducible exact wigwagref01_AddT.Q p8 200 Wp8 (by decide) _ _))
 all_goals (generalize hW : World.drewN w3 _ = w4; have hl : Below w3.heap.size w3 w4 := (by rw [← hW]; exact pw_below_drewN (Below.refl _ _) _); clear hW; replace Bg0 := Bg0.below hl; replace Bg1 := Bg1.below hl; replace Bg2 := Bg2.below hl; replace HS := HS.below hl; clear hl; clear kg0_0 kg0_8 kg1_0)
 go_wp2_with (first | (refine seg_store rfl rfl 3 (.tmp 56) (.const (.int .i64 2)) rfl g0 0 [.int .i64 2] [.int .i64 2, .slice A1 l1.length k1, .int .u64 p2, .int .u64 p3, .int .u64 p4, .int .u64 p5, .int .u64 p6, .int .u64 p7, .int .u64 p8, .int .u64 p9] (.int .i64 2) rfl rfl rfl Bg0 (by kernel_rfl) (nle rfl) rfl rfl ?_; intro w5 hn hw; replace Bg1 := Bg1.grown hw Ng1_g0; replace Bg2 := Bg2.grown hw Ng2_g0; replace HS := HS.grown hw GEg0; replace Bg0 := hn; clear hw; clear hn) | (refine seg_store rfl rfl 24 (.tmp 57) (.const (.int .u64 2)) rfl g0 7 [.int .u64 2] [.int .i64 2, .slice A1 l1.length k1, .int .u64 p2, .int .u64 p3, .int .u64 p4, .int .u64 p5, .int .u64 p6, .int .u64 2, .int .u64 p8, .int .u64 p9] (.int .u64 2) rfl rfl rfl Bg0 (by kernel_rfl) (nle rfl) rfl rfl ?_; intro w6 hn hw; replace Bg1 := Bg1.grown hw Ng1_g0; replace Bg2 := Bg2.grown hw Ng2_g0; replace HS := HS.grown hw GEg0; replace Bg0 := hn; clear hw; have kg1_0 := Bg1.at 0 rfl; clear hn) | (refine seg_store rfl rfl 24 (.tmp 60) (.tmp 59) rfl g0 8 [.int .u64 g_0] [.int .i64 2, .slice A1 l1.length k1, .int .u64 p2, .int .u64 p3, .int .u64 p4, .int .u64 p5, .int .u64 p6, .int .u64 2, .int .u64 g_0, .int .u64 p9] (.int .u64 g_0) rfl rfl rfl Bg0 (by kernel_rfl) (nle rfl) rfl rfl ?_; intro w7 hn hw; replace Bg1 := Bg1.grown hw Ng1_g0; replace Bg2 := Bg2.grown hw Ng2_g0; replace HS := HS.grown hw GEg0; replace Bg0 := hn; clear hw; clear kg1_0; clear hn) | (refine seg_load rfl (N := 61) rfl 26 (.tmp 3) rfl g0 0 [.int .i64 2, .slice A1 l1.length k1, .int .u64 p2, .int .u64 p3, .int .u64 p4, .int .u64 p5, .int .u64 p6, .int .u64 2, .int .u64 g_0, .int .u64 p9] rfl Bg0 rfl Try.underlying26 rfl (by kernel_rfl) ?_) | (refine seg_store rfl rfl 26 (.tmp 6) (.tmp 61) rfl g2 0 [.int .i64 2, .slice A1 l1.length k1, .int .u64 p2, .int .u64 p3, .int .u64 p4, .int .u64 p5, .int .u64 p6, .int .u64 2, .int .u64 g_0, .int .u64 p9] [.int .i64 2, .slice A1 l1.length k1, .int .u64 p2, .int .u64 p3, .int .u64 p4, .int .u64 p5, .int .u64 p6, .int .u64 2, .int .u64 g_0, .int .u64 p9] (.agg #[.int .i64 2, .slice A1 l1.length k1, .int .u64 p2, .int .u64 p3, .int .u64 p4, .int .u64 p5, .int .u64 p6, .int .u64 2, .int .u64 g_0, .int .u64 p9]) rfl rfl rfl Bg2 (by kernel_rfl) (nle rfl) rfl rfl ?_; intro w8 hn hw; replace Bg0 := Bg0.grown hw Ng2_g0.symm; replace Bg1 := Bg1.grown hw Ng2_g1.symm; replace HS := HS.grown hw GEg2; replace Bg2 := hn; clear hw; clear hn))
 all_goals exact bodyPost_ret (results_cell1 rfl _ _ g2 26 [.int .i64 2, .slice A1 l1.length k1, .int .u64 p2, .int .u64 p3, .int .u64 p4, .int .u64 p5, .int .u64 p6, .int .u64 2, .int .u64 g_0, .int .u64 p9] _ rfl Bg2 Try.underlying26 rfl (by kernel_rfl)) rfl ⟨rfl, HS.out⟩
theorem rmove_7 (p0 p2 p3 p4 p5 p6 p7 p8 p9 g_0 g_1 g_2 g_3 g_4 g_5 g_6 g_7 : Int) (g_8 g_9 stale : Bool) (A1 : Option Addr) (k1 : Nat) (Wp8 : W64 p8) (w : World) (l1 : List S52) (hr1 : Kd.C k52 w A1 l1.length l1) (hk1 : l1.length ≤ k1) (hw1 : SWf l1) (h0 : (p0 == 0) = false) (h1 : (p0 == 1) = false) (h2 : (p0 == 2) = false) (h3 : (p0 == 3) = true) (h4 : (decide (uAdd p8 200 ≤ g_0)) = false) :
  Calls Try.prog 34 #[.agg #[.int .i64 p0, .slice A1 l1.length k1, .int .u64 p2, .int .u64 p3, .int .u64 p4, .int .u64 p5, .int .u64 p6, .int .u64 p7, .int .u64 p8, .int .u64 p9], .agg #[.int .u64 g_0, .int .u64 g_1, .int .u64 g_2, .int .u64 g_3, .int .u64 g_4, .int .u64 g_5, .int .u64 g_6, .int .u64 g_7, .bool g_8, .bool g_9], .bool stale] w fun e w' => e = .returned (.agg #[.int .i64 p0, .slice A1 l1.length k1, .int .u64 p2, .int .u64 p3, .int .u64 p4, .int .u64 p5, .int .u64 p6, .int .u64 p7, .int .u64 p8, .int .u64 p9]) ∧ Below w.heap.size w w' := by
 have hu26 := Try.underlying26
 have hu28 := Try.underlying28
 have HS := Since.refl w
 go_enter Try.func34, Try.ntmps34
 go_wp2_with (first | (refine seg_new rfl (N := 3) rfl [.int .i64 p0, .slice A1 l1.length k1, .int .u64 p2, .int .u64 p3, .int .u64 p4, .int .u64 p5, .int .u64 p6, .int .u64 p7, .int .u64 p8, .int .u64 p9] 26 ?hr ?_; (case hr => rfl); intro g0 hg w1 hn hl; have GEg0 := ge_new HS hg; clear hg; replace HS := HS.below hl; have Bg0 := hn; clear hl hn) | (refine seg_new rfl (N := 4) rfl [.int .u64 g_0, .int .u64 g_1, .int .u64 g_2, .int .u64 g_3, .int .u64 g_4, .int .u64 g_5, .int .u64 g_6, .int .u64 g_7, .bool g_8, .bool g_9] 28 ?hr ?_; (case hr => rfl); intro g1 hg w2 hn hl; have Ng1_g0 := ne_new Bg0 hg; have GEg1 := ge_new HS hg; clear hg; replace Bg0 := Bg0.below hl; replace HS := HS.below hl; have Bg1 := hn; clear hl hn) | (refine seg_new rfl (N := 6) rfl [.int .i64 0, .slice none 0 0, .int .u64 0, .int .u64 0, .int .u64 0, .int .u64 0, .int .u64 0, .int .u64 0, .int .u64 0, .int .u64 0] 26 ?hr ?_; (case hr => rfl); intro g2 hg w3 hn hl; have Ng2_g0 := ne_new Bg0 hg; have Ng2_g1 := ne_new Bg1 hg; have GEg2 := ge_new HS hg; clear hg; replace Bg0 := Bg0.below hl; replace Bg1 := Bg1.below hl; replace HS := HS.below hl; have Bg2 := hn; clear hl hn; have kg0_0 := Bg0.at 0 rfl; have kg0_8 := Bg0.at 8 rfl; have kg1_0 := Bg1.at 0 rfl))
 all_goals go_quiet (first | (go_at_call 30; with_reducible exact wigwagref01_AddT.Q p8 200 Wp8 (by decide) _ _))
 all_goals (generalize hW : World.drewN w3 _ = w4; have hl : Below w3.heap.size w3 w4 := (by rw [← hW]; exact pw_below_drewN (Below.refl _ _) _); clear hW; replace Bg0 := Bg0.below hl; replace Bg1 := Bg1.below hl; replace Bg2 := Bg2.below hl; replace HS := HS.below hl; clear hl; clear kg0_0 kg0_8 kg1_0)
 go_wp2_with (first | (refine seg_load rfl (N := 61) rfl 26 (.tmp 3) rfl g0 0 [.int .i64 p0, .slice A1 l1.length k1, .int .u64 p2, .int .u64 p3, .int .u64 p4, .int .u64 p5, .int .u64 p6, .int .u64 p7, .int .u64 p8, .int .u64 p9] rfl Bg0 rfl Try.underlying26 rfl (by kernel_rfl) ?_) | (refine seg_store rfl rfl 26 (.tmp 6) (.tmp 61) rfl g2 0 [.int .i64 p0, .slice A1 l1.length k1, .int .u64 p2, .int .u64 p3, .int .u64 p4, .int .u64 p5, .int .u64 p6, .int .u64 p7, .int .u64 p8, .int .u64 p9] [.int .i64 p0, .slice A1 l1.length k1, .int .u64 p2, .int .u64 p3, .int .u64 p4, .int .u64 p5, .int .u64 p6, .int .u64 p7, .int .u64 p8, .int .u64 p9] (.agg #[.int .i64 p0, .slice A1 l1.length k1, .int .u64 p2, .int .u64 p3, .int .u64 p4, .int .u64 p5, .int .u64 p6, .int .u64 p7, .int .u64 p8, .int .u64 p9]) rfl rfl rfl Bg2 (by kernel_rfl) (nle rfl) rfl rfl ?_; intro w5 hn hw; replace Bg0 := Bg0.grown hw Ng2_g0.symm; replace Bg1 := Bg1.grown hw Ng2_g1.symm; replace HS := HS.grown hw GEg2; replace Bg2 := hn; clear hw; clear hn))
 all_goals exact bodyPost_ret (results_cell1 rfl _ _ g2 26 [.int .i64 p0, .slice A1 l1.length k1, .int .u64 p2, .int .u64 p3, .int .u64 p4, .int .u64 p5, .int .u64 p6, .int .u64 p7, .int .u64 p8, .int .u64 p9] _ rfl Bg2 Try.underlying26 rfl (by kernel_rfl)) rfl ⟨rfl, HS.out⟩
theorem rmove_8 (p0 p2 p3 p4 p5 p6 p7 p8 p9 g_0 g_1 g_2 g_3 g_4 g_5 g_6 g_7 : Int) (g_8 g_9 stale : Bool) (A1 : Option Addr) (k1 : Nat)  (w : World) (l1 : List S52) (hr1 : Kd.C k52 w A1 l1.length l1) (hk1 : l1.length ≤ k1) (hw1 : SWf l1) (h0 : (p0 == 0) = false) (h1 : (p0 == 1) = false) (h2 : (p0 == 2) = false) (h3 : (p0 == 3) = false) :
  Calls Try.prog 34 #[.agg #[.int .i64 p0, .slice A1 l1.length k1, .int .u64 p2, .int .u64 p3, .int .u64 p4, .int .u64 p5, .int .u64 p6, .int .u64 p7, .int .u64 p8, .int .u64 p9], .agg #[.int .u64 g_0, .int .u64 g_1, .int .u64 g_2, .int .u64 g_3, .int .u64 g_4, .int .u64 g_5, .int .u64 g_6, .int .u64 g_7, .bool g_8, .bool g_9], .bool stale] w fun e w' => e = .returned (.agg #[.int .i64 p0, .slice A1 l1.length k1, .int .u64 p2, .int .u64 p3, .int .u64 p4, .int .u64 p5, .int .u64 p6, .int .u64 p7, .int .u64 p8, .int .u64 p9]) ∧ Below w.heap.size w w' := by
 have hu26 := Try.underlying26
 have hu28 := Try.underlying28
 have HS := Since.refl w
 go_enter Try.func34, Try.ntmps34
 go_wp2_with (first | (refine seg_new rfl (N := 3) rfl [.int .i64 p0, .slice A1 l1.length k1, .int .u64 p2, .int .u64 p3, .int .u64 p4, .int .u64 p5, .int .u64 p6, .int .u64 p7, .int .u64 p8, .int .u64 p9] 26 ?hr ?_; (case hr => rfl); intro g0 hg w1 hn hl; have GEg0 := ge_new HS hg; clear hg; replace HS := HS.below hl; have Bg0 := hn; clear hl hn) | (refine seg_new rfl (N := 4) rfl [.int .u64 g_0, .int .u64 g_1, .int .u64 g_2, .int .u64 g_3, .int .u64 g_4, .int .u64 g_5, .int .u64 g_6, .int .u64 g_7, .bool g_8, .bool g_9] 28 ?hr ?_; (case hr => rfl); intro g1 hg w2 hn hl; have Ng1_g0 := ne_new Bg0 hg; have GEg1 := ge_new HS hg; clear hg; replace Bg0 := Bg0.below hl; replace HS := HS.below hl; have Bg1 := hn; clear hl hn) | (refine seg_new rfl (N := 6) rfl [.int .i64 0, .slice none 0 0, .int .u64 0, .int .u64 0, .int .u64 0, .int .u64 0, .int .u64 0, .int .u64 0, .int .u64 0, .int .u64 0] 26 ?hr ?_; (case hr => rfl); intro g2 hg w3 hn hl; have Ng2_g0 := ne_new Bg0 hg; have Ng2_g1 := ne_new Bg1 hg; have GEg2 := ge_new HS hg; clear hg; replace Bg0 := Bg0.below hl; replace Bg1 := Bg1.below hl; replace HS := HS.below hl; have Bg2 := hn; clear hl hn; have kg0_0 := Bg0.at 0 rfl) | (refine seg_load rfl (N := 61) rfl 26 (.tmp 3) rfl g0 0 [.int .i64 p0, .slice A1 l1.length k1, .int .u64 p2, .int .u64 p3, .int .u64 p4, .int .u64 p5, .int .u64 p6, .int .u64 p7, .int .u64 p8, .int .u64 p9] rfl Bg0 rfl Try.underlying26 rfl (by kernel_rfl) ?_) | (refine seg_store rfl rfl 26 (.tmp 6) (.tmp 61) rfl g2 0 [.int .i64 p0, .slice A1 l1.length k1, .int .u64 p2, .int .u64 p3, .int .u64 p4, .int .u64 p5, .int .u64 p6, .int .u64 p7, .int .u64 p8, .int .u64 p9] [.int .i64 p0, .slice A1 l1.length k1, .int .u64 p2, .int .u64 p3, .int .u64 p4, .int .u64 p5, .int .u64 p6, .int .u64 p7, .int .u64 p8, .int .u64 p9] (.agg #[.int .i64 p0, .slice A1 l1.length k1, .int .u64 p2, .int .u64 p3, .int .u64 p4, .int .u64 p5, .int .u64 p6, .int .u64 p7, .int .u64 p8, .int .u64 p9]) rfl rfl rfl Bg2 (by kernel_rfl) (nle rfl) rfl rfl ?_; intro w4 hn hw; replace Bg0 := Bg0.grown hw Ng2_g0.symm; replace Bg1 := Bg1.grown hw Ng2_g1.symm; replace HS := HS.grown hw GEg2; replace Bg2 := hn; clear hw; clear kg0_0; clear hn))
 all_goals exact bodyPost_ret (results_cell1 rfl _ _ g2 26 [.int .i64 p0, .slice A1 l1.length k1, .int .u64 p2, .int .u64 p3, .int .u64 p4, .int .u64 p5, .int .u64 p6, .int .u64 p7, .int .u64 p8, .int .u64 p9] _ rfl Bg2 Try.underlying26 rfl (by kernel_rfl)) rfl ⟨rfl, HS.out⟩
theorem moveC (p0 p2 p3 p4 p5 p6 p7 p8 p9 : Int) (g_0 g_1 g_2 g_3 g_4 g_5 g_6 g_7 : Int) (g_8 g_9 stale : Bool) (A1 : Option Addr) (k1 : Nat) (l1 : List S52) (hw1 : SWf l1) (Wp2 : W64 p2) (Wp3 : W64 p3) (Wp4 : W64 p4) (Wp5 : W64 p5) (Wp6 : W64 p6) (Wp7 : W64 p7) (Wp8 : W64 p8) (Wp9 : W64 p9) (w : World) (hr1 : Kd.C k52 w A1 l1.length l1) (hk1 : l1.length ≤ k1) :
  Calls Try.prog 34 #[.agg #[.int .i64 p0, .slice A1 l1.length k1, .int .u64 p2, .int .u64 p3, .int .u64 p4, .int .u64 p5, .int .u64 p6, .int .u64 p7, .int .u64 p8, .int .u64 p9], .agg #[.int .u64 g_0, .int .u64 g_1, .int .u64 g_2, .int .u64 g_3, .int .u64 g_4, .int .u64 g_5, .int .u64 g_6, .int .u64 g_7, .bool g_8, .bool g_9], .bool stale] w fun e w' => e = .returned (.agg #[.int .i64 (pMove p0 l1 p2 p3 p4 p5 p6 p7 p8 p9 g_0 g_6 g_8 g_9 stale).1, .slice A1 l1.length k1, .int .u64 p2, .int .u64 p3, .int .u64 (pMove p0 l1 p2 p3 p4 p5 p6 p7 p8 p9 g_0 g_6 g_8 g_9 stale).2.2.2.2.1, .int .u64 (pMove p0 l1 p2 p3 p4 p5 p6 p7 p8 p9 g_0 g_6 g_8 g_9 stale).2.2.2.2.2.1, .int .u64 p6, .int .u64 (pMove p0 l1 p2 p3 p4 p5 p6 p7 p8 p9 g_0 g_6 g_8 g_9 stale).2.2.2.2.2.2.2.1, .int .u64 (pMove p0 l1 p2 p3 p4 p5 p6 p7 p8 p9 g_0 g_6 g_8 g_9 stale).2.2.2.2.2.2.2.2.1, .int .u64 p9]) ∧ Below w.heap.size w w' := by
 cases stale with
 | false =>
  by_cases e1 : p0 = 0
  ·have f1 : (p0 == 0) = true := (by simpa using e1)
   refine (rmove_0 p0 p2 p3 p4 p5 p6 p7 p8 p9 g_0 g_1 g_2 g_3 g_4 g_5 g_6 g_7 g_8 g_9 false A1 k1 Wp4 Wp5 w l1 hr1 hk1 hw1 f1).mono ?_
   rintro e w' ⟨rfl, hb⟩
   refine ⟨?_, hb⟩
   simp [pMove, pStart, e1]
   all_goals (split <;> (try split) <;> (try split) <;> simp_all)
  ·have f1 : (p0 == 0) = false := (by simpa using e1)
   by_cases e2 : p0 = 1
   ·have f2 : (p0 == 1) = true := (by simpa using e2)
    by_cases e3 : g_6 ≤ uProd l1 p2 256
    ·have f3 : (decide (g_6 ≤ uProd l1 p2 256)) = true := decide_eq_true e3
     refine (rmove_1 p0 p2 p3 p4 p5 p6 p7 p8 p9 g_0 g_1 g_2 g_3 g_4 g_5 g_6 g_7 g_8 g_9 false A1 k1 Wp2 w l1 hr1 hk1 hw1 f1 f2 f3).mono ?_
     rintro e w' ⟨rfl, hb⟩
     refine ⟨?_, hb⟩
     simp [pMove, pStart, e1, e2, e3]
     all_goals (split <;> (try split) <;> (try split) <;> simp_all)
    ·have f3 : (decide (g_6 ≤ uProd l1 p2 256)) = false := decide_eq_false e3
     refine (rmove_2 p0 p2 p3 p4 p5 p6 p7 p8 p9 g_0 g_1 g_2 g_3 g_4 g_5 g_6 g_7 g_8 g_9 false A1 k1 Wp2 w l1 hr1 hk1 hw1 f1 f2 f3).mono ?_
     rintro e w' ⟨rfl, hb⟩
     refine ⟨?_, hb⟩
     simp [pMove, pStart, e1, e2, e3]
     all_goals (split <;> (try split) <;> (try split) <;> simp_all)
   ·have f2 : (p0 == 1) = false := (by simpa using e2)
    by_cases e4 : p0 = 2
    ·have f4 : (p0 == 2) = true := (by simpa using e4)
     by_cases e5 : uAdd p8 p2 ≤ g_0
     ·have f5 : (decide (uAdd p8 p2 ≤ g_0)) = true := decide_eq_true e5
      refine (rmove_4 p0 p2 p3 p4 p5 p6 p7 p8 p9 g_0 g_1 g_2 g_3 g_4 g_5 g_6 g_7 g_8 g_9 A1 k1 Wp2 Wp7 Wp8 w l1 hr1 hk1 hw1 f1 f2 f4 f5).mono ?_
      rintro e w' ⟨rfl, hb⟩
      refine ⟨?_, hb⟩
      simp [pMove, pStart, e1, e2, e4, e5]
      all_goals (split <;> (try split) <;> (try split) <;> simp_all)
     ·have f5 : (decide (uAdd p8 p2 ≤ g_0)) = false := decide_eq_false e5
      refine (rmove_5 p0 p2 p3 p4 p5 p6 p7 p8 p9 g_0 g_1 g_2 g_3 g_4 g_5 g_6 g_7 g_8 g_9 A1 k1 Wp2 Wp8 w l1 hr1 hk1 hw1 f1 f2 f4 f5).mono ?_
      rintro e w' ⟨rfl, hb⟩
      refine ⟨?_, hb⟩
      simp [pMove, pStart, e1, e2, e4, e5]
      all_goals (split <;> (try split) <;> (try split) <;> simp_all)
    ·have f4 : (p0 == 2) = false := (by simpa using e4)
     by_cases e6 : p0 = 3
     ·have f6 : (p0 == 3) = true := (by simpa using e6)
      by_cases e7 : uAdd p8 200 ≤ g_0
      ·have f7 : (decide (uAdd p8 200 ≤ g_0)) = true := decide_eq_true e7
       refine (rmove_6 p0 p2 p3 p4 p5 p6 p7 p8 p9 g_0 g_1 g_2 g_3 g_4 g_5 g_6 g_7 g_8 g_9 false A1 k1 Wp8 w l1 hr1 hk1 hw1 f1 f2 f4 f6 f7).mono ?_
       rintro e w' ⟨rfl, hb⟩
       refine ⟨?_, hb⟩
       simp [pMove, pStart, e1, e2, e4, e6, e7]
       all_goals (split <;> (try split) <;> (try split) <;> simp_all)
      ·have f7 : (decide (uAdd p8 200 ≤ g_0)) = false := decide_eq_false e7
       refine (rmove_7 p0 p2 p3 p4 p5 p6 p7 p8 p9 g_0 g_1 g_2 g_3 g_4 g_5 g_6 g_7 g_8 g_9 false A1 k1 Wp8 w l1 hr1 hk1 hw1 f1 f2 f4 f6 f7).mono ?_
       rintro e w' ⟨rfl, hb⟩
       refine ⟨?_, hb⟩
       simp [pMove, pStart, e1, e2, e4, e6, e7]
       all_goals (split <;> (try split) <;> (try split) <;> simp_all)
     ·have f6 : (p0 == 3) = false := (by simpa using e6)
      refine (rmove_8 p0 p2 p3 p4 p5 p6 p7 p8 p9 g_0 g_1 g_2 g_3 g_4 g_5 g_6 g_7 g_8 g_9 false A1 k1 w l1 hr1 hk1 hw1 f1 f2 f4 f6).mono ?_
      rintro e w' ⟨rfl, hb⟩
      refine ⟨?_, hb⟩
      simp [pMove, pStart, e1, e2, e4, e6]
      all_goals (split <;> (try split) <;> (try split) <;> simp_all)
 | true =>
  by_cases e8 : p0 = 0
  ·have f8 : (p0 == 0) = true := (by simpa using e8)
   refine (rmove_0 p0 p2 p3 p4 p5 p6 p7 p8 p9 g_0 g_1 g_2 g_3 g_4 g_5 g_6 g_7 g_8 g_9 true A1 k1 Wp4 Wp5 w l1 hr1 hk1 hw1 f8).mono ?_
   rintro e w' ⟨rfl, hb⟩
   refine ⟨?_, hb⟩
   simp [pMove, pStart, e8]
   all_goals (split <;> (try split) <;> (try split) <;> simp_all)
  ·have f8 : (p0 == 0) = false := (by simpa using e8)
   by_cases e9 : p0 = 1
   ·have f9 : (p0 == 1) = true := (by simpa using e9)
    by_cases e10 : g_6 ≤ uProd l1 p2 256
    ·have f10 : (decide (g_6 ≤ uProd l1 p2 256)) = true := decide_eq_true e10
     refine (rmove_1 p0 p2 p3 p4 p5 p6 p7 p8 p9 g_0 g_1 g_2 g_3 g_4 g_5 g_6 g_7 g_8 g_9 true A1 k1 Wp2 w l1 hr1 hk1 hw1 f8 f9 f10).mono ?_
     rintro e w' ⟨rfl, hb⟩
     refine ⟨?_, hb⟩
     simp [pMove, pStart, e8, e9, e10]
     all_goals (split <;> (try split) <;> (try split) <;> simp_all)
    ·have f10 : (decide (g_6 ≤ uProd l1 p2 256)) = false := decide_eq_false e10
     refine (rmove_2 p0 p2 p3 p4 p5 p6 p7 p8 p9 g_0 g_1 g_2 g_3 g_4 g_5 g_6 g_7 g_8 g_9 true A1 k1 Wp2 w l1 hr1 hk1 hw1 f8 f9 f10).mono ?_
     rintro e w' ⟨rfl, hb⟩
     refine ⟨?_, hb⟩
     simp [pMove, pStart, e8, e9, e10]
     all_goals (split <;> (try split) <;> (try split) <;> simp_all)
   ·have f9 : (p0 == 1) = false := (by simpa using e9)
    by_cases e11 : p0 = 2
    ·have f11 : (p0 == 2) = true := (by simpa using e11)
     refine (rmove_3 p0 p2 p3 p4 p5 p6 p7 p8 p9 g_0 g_1 g_2 g_3 g_4 g_5 g_6 g_7 g_8 g_9 A1 k1 w l1 hr1 hk1 hw1 f8 f9 f11).mono ?_
     rintro e w' ⟨rfl, hb⟩
     refine ⟨?_, hb⟩
     simp [pMove, pStart, e8, e9, e11]
     all_goals (split <;> (try split) <;> (try split) <;> simp_all)
    ·have f11 : (p0 == 2) = false := (by simpa using e11)
     by_cases e12 : p0 = 3
     ·have f12 : (p0 == 3) = true := (by simpa using e12)
      by_cases e13 : uAdd p8 200 ≤ g_0
      ·have f13 : (decide (uAdd p8 200 ≤ g_0)) = true := decide_eq_true e13
       refine (rmove_6 p0 p2 p3 p4 p5 p6 p7 p8 p9 g_0 g_1 g_2 g_3 g_4 g_5 g_6 g_7 g_8 g_9 true A1 k1 Wp8 w l1 hr1 hk1 hw1 f8 f9 f11 f12 f13).mono ?_
       rintro e w' ⟨rfl, hb⟩
       refine ⟨?_, hb⟩
       simp [pMove, pStart, e8, e9, e11, e12, e13]
       all_goals (split <;> (try split) <;> (try split) <;> simp_all)
      ·have f13 : (decide (uAdd p8 200 ≤ g_0)) = false := decide_eq_false e13
       refine (rmove_7 p0 p2 p3 p4 p5 p6 p7 p8 p9 g_0 g_1 g_2 g_3 g_4 g_5 g_6 g_7 g_8 g_9 true A1 k1 Wp8 w l1 hr1 hk1 hw1 f8 f9 f11 f12 f13).mono ?_
       rintro e w' ⟨rfl, hb⟩
       refine ⟨?_, hb⟩
       simp [pMove, pStart, e8, e9, e11, e12, e13]
       all_goals (split <;> (try split) <;> (try split) <;> simp_all)
     ·have f12 : (p0 == 3) = false := (by simpa using e12)
      refine (rmove_8 p0 p2 p3 p4 p5 p6 p7 p8 p9 g_0 g_1 g_2 g_3 g_4 g_5 g_6 g_7 g_8 g_9 true A1 k1 w l1 hr1 hk1 hw1 f8 f9 f11 f12).mono ?_
      rintro e w' ⟨rfl, hb⟩
      refine ⟨?_, hb⟩
      simp [pMove, pStart, e8, e9, e11, e12]
      all_goals (split <;> (try split) <;> (try split) <;> simp_all)
structure RB (w : World) (A : Option Addr) (l : List S52) : Prop where mk :: (out : Kd.C k52 w A l.length l)
theorem RB.below {w w1 : World} {A : Option Addr} {l : List S52} (h : RB w A l) (hb : Below w.heap.size w w1) : RB w1 A l := ⟨Kd.C_below h.out hb⟩
def NE (A : Option Addr) (l : List S52) (g : Nat) : Prop := ∀ ad, A = some ad → 0 < l.length → ad.block ≠ g
def FR (w : World) (A : Option Addr) (l : List S52) (A' : Option Addr) (l' : List S52) : Prop := (A' = A ∧ l' = l) ∨ ∀ ad, A' = some ad → 0 < l'.length → w.heap.size ≤ ad.block
theorem RB.lt {w : World} {A : Option Addr} {l : List S52} (h : RB w A l) {ad : Addr} (e : A = some ad) (hp : 0 < l.length) : ad.block < w.heap.size := by
 obtain ⟨_, _, h2⟩ := h.out
 obtain ⟨ad', e', hc⟩ := h2 hp
 rw [e] at e'
 cases e'
 obtain ⟨c, _, hr, hcell⟩ := hc 0 _ (List.getElem?_eq_getElem hp)
 obtain rfl := k52_open hr
 have := World.block_lt_of_cell? w _ (hcell 0 _ rfl)
 rwa [add_block] at this
theorem RB.ne_new {w : World} {A : Option Addr} {l : List S52} {g : Nat} (h : RB w A l) (hg : g = w.heap.size) : NE A l g := fun ad e hp he => by
 have := h.lt e hp
 omega
theorem RB.grown {w w1 : World} {A : Option Addr} {l : List S52} {g : Nat} (h : RB w A l) (hg : w.grownBy w1 (some g)) (ne : NE A l g) : RB w1 A l := by
 refine ⟨h.out.1, h.out.2.1, fun hn => ?_⟩
 obtain ⟨ad, e, hc⟩ := h.out.2.2 hn
 refine ⟨ad, e, fun j p hj => ?_⟩
 obtain ⟨c, hs, hr, hcell⟩ := hc j p hj
 obtain rfl := k52_open hr
 refine ⟨_, hs, k52_mk w1 p, fun i u hu => ?_⟩
 have hk := hcell i u hu
 have hlt := World.block_lt_of_cell? w _ hk
 have hb : w1.heap[(ad.add (j * k52.sz + i)).block]? = w.heap[(ad.add (j * k52.sz + i)).block]? := hg.block _ hlt (fun he => by
  injection he with he
  rw [add_block] at he
  exact ne ad e hn he)
 exact (World.cell?_of_block (w := w) hb).trans hk
theorem NE_old {w : World} {A : Option Addr} {l : List S52} {g : Nat} (h : RB w A l) (hg : w.heap.size ≤ g) : NE A l g := fun ad e hp he => by
 have := h.lt e hp
 omega
theorem FR.ne {w : World} {A A' : Option Addr} {l l' : List S52} (h : FR w A l A' l') {g : Nat} {t : TypeId} {cs : List Value} (hn : NE A l g) (hB : Blk w g t cs) : NE A' l' g := by
 intro ad e hp he
 rcases h with h | h
 ·obtain ⟨h, hl⟩ := h
  subst h hl
  exact hn ad e hp he
 ·have := h ad e hp
  have := hB.lt
  omega
theorem FR.mono {w w1 : World} {A A' : Option Addr} {l l' : List S52} (h : FR w1 A l A' l') (hs : w.heap.size ≤ w1.heap.size) : FR w A l A' l' := h.imp id (fun h ad e hp => Nat.le_trans hs (h ad e hp))
theorem push_loop {l : List S52} (hl : SWf l) {win at_ v : Int} (hw : W64 win) (hL : l.length < 1000000) : ∀ (d k i : Nat) (out : List S52), i + d = l.length → d < k → out.length + d < 8796093022208 → wigwagref02_push.l0 k l win true out (i : Int) at_ v = some (out ++ (l.drop i).filter (stays win at_ v) ++ [⟨at_, v⟩]) := by
 intro d
 induction d with
 | zero =>
  intro k i out hi hk ho
  obtain ⟨k, rfl⟩ : ∃ m, k = m + 1 := ⟨k - 1, by omega⟩
  simp only [wigwagref02_push.l0]
  rw [if_neg (by omega), if_pos (by omega), List.drop_eq_nil_of_le (by omega)]
  simp
 | succ d ih =>
  intro k i out hi hk ho
  obtain ⟨k, rfl⟩ : ∃ m, k = m + 1 := ⟨k - 1, by omega⟩
  have hlt : i < l.length := by omega
  have hrd : rd_T52 l (i : Int) = l[i] := by unfold rd_T52; simp [List.getD_eq_getElem?_getD, hlt]
  have hmem := hl l[i] (List.getElem_mem hlt)
  have hol : out.length < 8796093022208 := by omega
  have c1 : (i : Int) < (l.length : Int) := by omega
  have c2 : (0 : Int) ≤ (i : Int) := by omega
  have hol2 : (out ++ [(⟨l[i].f0, l[i].f1⟩ : S52)]).length + d < 8796093022208 := by simp; omega
  have hi1 : i + 1 + d = l.length := by omega
  have hk1 : d < k := by omega
  have hod : out.length + d < 8796093022208 := by omega
  have hwr : wrap64 ((i : Int) + 1) = ((i + 1 : Nat) : Int) := by rw [wrap64_is (by omega) (by omega)]; simp
  have hA : wigwagref01_AddT.f l[i].f0 win = some (uAdd l[i].f0 win) := by unfold wigwagref01_AddT.f; rw [if_pos ⟨hmem.1, hw⟩]
  simp only [wigwagref02_push.l0]
  rw [if_pos c1, if_pos c2, hrd, hA, List.drop_eq_getElem_cons hlt, List.filter_cons, hwr]
  simp only [Option.bind_some, if_true]
  by_cases h1 : uAdd l[i].f0 win ≥ at_
  ·by_cases h2 : l[i].f1 > v
   ·have hb : stays win at_ v l[i] = true := by unfold stays; simp [h1, h2]
    rw [if_pos h1, if_pos h2, if_pos hol, ih k (i + 1) _ hi1 hk1 hol2, hb]
    simp
   ·have hb : stays win at_ v l[i] = false := by unfold stays; simp; omega
    rw [if_pos h1, if_neg h2, ih k (i + 1) _ hi1 hk1 hod, hb]
    simp
  ·have hb : stays win at_ v l[i] = false := by unfold stays; simp; omega
   rw [if_neg h1, ih k (i + 1) _ hi1 hk1 hod, hb]
   simp
theorem pushC (win at_ v : Int) (A1 : Option Addr) (k1 : Nat) (l1 : List S52) (hw1 : SWf l1) (hw : W64 win) (ha : W64 at_) (hv : W64 v) (w : World) (hr1 : RB w A1 l1) (hk1 : l1.length ≤ k1) (hL1 : l1.length < 1000000) :
  Calls Try.prog 33 #[.slice A1 l1.length k1, .int .u64 win, .agg #[.int .u64 at_, .int .u64 v]] w fun e w' => ∃ (qA : Option Addr) (qk : Nat), e = .returned (.slice qA (uPush l1 win at_ v).length qk) ∧ (uPush l1 win at_ v).length ≤ qk ∧ RB w' qA (uPush l1 win at_ v) ∧ FR w A1 l1 qA (uPush l1 win at_ v) ∧ Below w.heap.size w w' := by
 have h := push_loop hw1 hw hL1 (at_ := at_) (v := v) l1.length (l1.length + 1) 0 [] (by omega) (by omega) (by simp; omega)
 refine (wigwagref02_PushMax.calls (l1.length + 1) A1 k1 l1 win at_ v (uPush l1 win at_ v) w hr1.out hk1 (by unfold wigwagref02_PushMax.f wigwagref02_push.f; simp only [List.nil_append, List.drop_zero, Int.ofNat_zero] at h; first | (rw [h]; rfl) | (show (wigwagref02_push.l0 (l1.length + 1) l1 win true [] ((0 : Nat) : Int) at_ v).bind _ = _; rw [h]; rfl))).mono ?_
 rintro e w' ⟨vq, rfl, ho, hb⟩
 obtain ⟨qA, qk, rfl⟩ := Kd.R_slice ho
 obtain ⟨_, hk, hC⟩ := Kd.R_reads' ho
 exact ⟨_, _, rfl, hk, ⟨hC⟩, .inr (fun ad e hp => by obtain ⟨inner, hown⟩ := Kd.R_own ho; exact own_base hown _ (by rw [e]; rfl)), hb⟩
theorem wf_push {l : List S52} (hl : SWf l) {win at_ v : Int} (ha : W64 at_) (hv : W64 v) : SWf (uPush l win at_ v) := uPush_wf hl ha hv
end Go.Proofs.Ytoanhimhomgjmaa.PPrN
end
