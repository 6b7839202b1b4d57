/- What the functions of layer 13 answer at numbers of 64 bits, in plain words. -/
import Derived.Test.YtoanhimhomgjmaaPPrOx9
namespace Go.Proofs.Ytoanhimhomgjmaa.ProEq
set_option linter.unusedVariables false
open Go.RowKit Go.Proofs.Ytoanhimhomgjmaa.PPrO Go.Proofs.YtoanhimhomgjmaaW.PrintWords Go.Proofs.YtoanhimhomgjmaaW.PrintLast

theorem wf64 {a : Int} (h : (Lit.int .u64 a).wf = true) : W64 a := by
  have e1 : IntKind.u64.min = 0 := rfl
  have e2 : IntKind.u64.max = 18446744073709551615 := rfl
  simp [Lit.wf, e1, e2] at h
  omega
theorem wf32 {a : Int} (h : (Lit.int .u32 a).wf = true) : 0 ≤ a ∧ a ≤ 4294967295 := by
  have e1 : IntKind.u32.min = 0 := rfl
  have e2 : IntKind.u32.max = 4294967295 := rfl
  simp [Lit.wf, e1, e2] at h
  omega
theorem wf16 {a : Int} (h : (Lit.int .u16 a).wf = true) : 0 ≤ a ∧ a ≤ 65535 := by
  have e1 : IntKind.u16.min = 0 := rfl
  have e2 : IntKind.u16.max = 65535 := rfl
  simp [Lit.wf, e1, e2] at h
  omega
theorem wf8 {a : Int} (h : (Lit.int .u8 a).wf = true) : 0 ≤ a ∧ a ≤ 255 := by
  have e1 : IntKind.u8.min = 0 := rfl
  have e2 : IntKind.u8.max = 255 := rfl
  simp [Lit.wf, e1, e2] at h
  omega
theorem wrap64_is {x : Int} (h0 : 0 ≤ x) (h1 : x < 9223372036854775808) : wrap64 x = x := by unfold wrap64; omega
theorem wdiv {x : Int} (h : W64 x) (n : Int) (hn : 1 ≤ n) : IntKind.u64.wrap (Int.tdiv x n) = x / n := by
  rw [Int.tdiv_eq_ediv_of_nonneg h.1]
  have h1 := Int.ediv_nonneg h.1 (show (0 : Int) ≤ n by omega)
  have h2 := Int.ediv_le_self n h.1
  exact w64 (by omega)
theorem add_eq {a b : Int} (ha : W64 a) (hb : W64 b) : fix_Add.f a b = some (uAdd a b) := by unfold fix_Add.f; rw [if_pos ⟨ha, hb⟩]
theorem muldiv_eq {a b c : Int} (ha : W64 a) (hb : W64 b) (hc : W64 c) : fix_MulDivT.f a b c = some (uMulDiv a b c) := by unfold fix_MulDivT.f; rw [if_pos ⟨ha, hb, hc⟩]
theorem held_eq {a : Int} : reno_Held.f a = some (uHeld a) := rfl
def uGain (a b : Int) : Int := uMulDiv a b 256
theorem gain_eq {a b : Int} (ha : W64 a) (hb : W64 b) : fix_Gain.f a b = some (uGain a b) := by unfold fix_Gain.f; rw [muldiv_eq ha hb (by omega)]; rfl
theorem uGain_w {a b : Int} (ha : W64 a) (hb : W64 b) : W64 (uGain a b) := uMulDiv_w ha hb (by omega)

/-- The numbers of a list of samples are of 64 bits. -/
def SWf (l : List S52) : Prop := ∀ x ∈ l, W64 x.f0 ∧ W64 x.f1
def uBest : List S52 → Int
  | [] => 0
  | x :: _ => x.f1
theorem best_eq (l : List S52) : filt_Best.f l = some (uBest l) := by
  cases l with
  | nil => rfl
  | cons x t =>
    unfold filt_Best.f
    have hl : ((x :: t).length : Int) = t.length + 1 := by simp
    rw [if_neg (by omega), if_pos (by omega)]
    rfl
theorem best_w {l : List S52} (h : SWf l) : W64 (uBest l) := by
  cases l with
  | nil => exact ⟨by decide, by decide⟩
  | cons x t => exact (h x (List.mem_cons_self ..)).2
def uProd (l : List S52) (mn parts : Int) : Int := if mn = 18446744073709551615 then 0 else uGain (uMulDiv (uBest l) mn 1000) parts
theorem prod_eq {a0 a2 a3 a4 a5 a6 a7 a8 a9 parts : Int} {l : List S52} (hl : SWf l) (hm : W64 a2) (hp : W64 parts) : probe_Product.f a0 l a2 a3 a4 a5 a6 a7 a8 a9 parts = some (uProd l a2 parts) := by
  unfold probe_Product.f uProd
  by_cases h : a2 = 18446744073709551615
  · rw [if_pos h, if_pos h]
  · rw [if_neg h, if_neg h, best_eq]
    simp only [Option.bind_some]
    rw [muldiv_eq (best_w hl) hm (by omega)]
    simp only [Option.bind_some]
    rw [gain_eq (uMulDiv_w (best_w hl) hm (by omega)) hp]
    rfl
theorem uProd_w {l : List S52} {mn parts : Int} (hl : SWf l) (hm : W64 mn) (hp : W64 parts) : W64 (uProd l mn parts) := by
  unfold uProd
  split
  · omega
  · exact uGain_w (uMulDiv_w (best_w hl) hm (by omega)) hp

def stays (win at_ v : Int) (x : S52) : Bool := decide (at_ ≤ uAdd x.f0 win) && decide (v < x.f1)
def uPush (l : List S52) (win at_ v : Int) : List S52 := l.filter (stays win at_ v) ++ [⟨at_, v⟩]
theorem kept_loop {l : List S52} (hl : SWf l) {win at_ v b0 b1 : Int} (hw : W64 win) (ha : W64 at_) (hv : W64 v) (hL : l.length < 1000000) : ∀ (d k i : Nat) (out : List S52), i + d = l.length → d < k → out.length + d < 8796093022208 → api_Sample_41.l0 k win (at_ * 18446744073709551616 + v) out l (l.length : Int) (i : Int) b0 b1 = some (out ++ (l.drop i).filter (stays win at_ v) ++ [⟨b0, b1⟩]) := by
  intro d
  induction d with
  | zero =>
    intro k i out hi hk ho
    obtain ⟨k, rfl⟩ : ∃ m, k = m + 1 := ⟨k - 1, by omega⟩
    simp only [api_Sample_41.l0]
    rw [if_neg (by omega), if_pos (by omega), List.drop_eq_nil_of_le (by omega)]
    simp
  | succ d ih =>
    intro k i out hi hk ho
    obtain ⟨k, rfl⟩ : ∃ m, k = m + 1 := ⟨k - 1, by omega⟩
    have hlt : i < l.length := by omega
    have hrd : rd_T52 l (i : Int) = l[i] := by unfold rd_T52; simp [List.getD_eq_getElem?_getD, hlt]
    have hmem := hl l[i] (List.getElem_mem hlt)
    have hol : out.length < 8796093022208 := by omega
    have c1 : (i : Int) < (l.length : Int) := by omega
    have c2 : (0 : Int) ≤ (i : Int) := by omega
    have hol2 : (out ++ [(⟨l[i].f0, l[i].f1⟩ : S52)]).length + d < 8796093022208 := by simp; omega
    have hi1 : i + 1 + d = l.length := by omega
    have hk1 : d < k := by omega
    have hod : out.length + d < 8796093022208 := by omega
    have hwr : wrap64 ((i : Int) + 1) = ((i + 1 : Nat) : Int) := by rw [wrap64_is (by omega) (by omega)]; simp
    have hP : filt_PushMax_1.f l[i].f0 l[i].f1 win (at_ * 18446744073709551616 + v) = some (stays win at_ v l[i]) := by
      unfold filt_PushMax_1.f stays
      rw [add_eq hmem.1 hw, show (at_ * 18446744073709551616 + v) / 18446744073709551616 = at_ by omega, show (at_ * 18446744073709551616 + v) % 18446744073709551616 = v by omega]
      rfl
    simp only [api_Sample_41.l0]
    rw [if_pos c1, if_pos c2, if_pos c1, hrd, hP, List.drop_eq_getElem_cons hlt, List.filter_cons, hwr]
    simp only [Option.bind_some]
    cases hb : stays win at_ v l[i] with
    | true =>
      rw [if_pos rfl, if_pos hol, ih k (i + 1) _ hi1 hk1 hol2]
      simp
    | false =>
      rw [if_neg (by simp), ih k (i + 1) _ hi1 hk1 hod]
      simp
theorem push_eq {l : List S52} (hl : SWf l) {win at_ v : Int} (hw : W64 win) (ha : W64 at_) (hv : W64 v) (hL : l.length < 1000000) {k : Nat} (hk : l.length < k) : filt_PushMax.f k l win at_ v = some (uPush l win at_ v) := by
  unfold filt_PushMax.f api_Sample_41.f
  rw [if_pos ⟨ha, hv⟩]
  have := kept_loop hl hw ha hv hL (b0 := at_) (b1 := v) l.length k 0 [] (by omega) hk (by simp; omega)
  simpa [uPush] using this
theorem uPush_wf {l : List S52} (hl : SWf l) {win at_ v : Int} (ha : W64 at_) (hv : W64 v) : SWf (uPush l win at_ v) := by
  intro x hx
  unfold uPush at hx
  rcases List.mem_append.1 hx with h | h
  · exact hl x ((List.mem_filter.1 h).1)
  · obtain rfl := List.mem_singleton.1 h
    exact ⟨ha, hv⟩
theorem uPush_len (l : List S52) (win at_ v : Int) : (uPush l win at_ v).length ≤ l.length + 1 := by
  unfold uPush
  have := List.length_filter_le (stays win at_ v) l
  simp; omega
theorem clone_eq {l : List S52} (hL : l.length < 1000000) : api_Sample_25.f l = some l := by
  unfold api_Sample_25.f
  simp only [Option.bind_some]
  rw [if_pos (by simp; omega)]
  simp

abbrev T10 := Int × List S52 × Int × Int × Int × Int × Int × Int × Int × Int
/-- What becomes of a model's state (the last step of what packets that came make of it). -/
def pMove (st : Int) (l : List S52) (mn mat full still rounds phase since high now flight : Int) (lim round stale : Bool) : T10 :=
  if st = 0 then
    if round = true ∧ lim = false then
      if uBest l > 0 ∧ uBest l ≥ uAdd full (full / 4) then (st, l, mn, mat, uBest l, 0, rounds, phase, since, high)
      else if uAdd still 1 = 3 then (1, l, mn, mat, full, uAdd still 1, rounds, phase, since, high) else (st, l, mn, mat, full, uAdd still 1, rounds, phase, since, high)
    else (st, l, mn, mat, full, still, rounds, phase, since, high)
  else if st = 1 then
    if flight ≤ uProd l mn 256 then (2, l, mn, mat, full, still, rounds, 0, now, high) else (st, l, mn, mat, full, still, rounds, phase, since, high)
  else if st = 2 then
    if stale = true then (3, l, mn, mat, full, still, rounds, phase, now, high)
    else if now ≥ uAdd since mn then (2, l, mn, mat, full, still, rounds, uAdd phase 1, now, high) else (st, l, mn, mat, full, still, rounds, phase, since, high)
  else if st = 3 then
    if now ≥ uAdd since 200 then (2, l, mn, mat, full, still, rounds, 2, now, high) else (st, l, mn, mat, full, still, rounds, phase, since, high)
  else (st, l, mn, mat, full, still, rounds, phase, since, high)
theorem j9_eq (k : Nat) {st mn mat full still rounds phase since high now x1 x2 x3 x4 took flight rate : Int} {l : List S52} {lim round : Bool} (hp : W64 phase) (hs : W64 since) (c : Bool) : probe_Ack.j9 (k + 1) c st l mn mat full still rounds phase since high now x1 x2 x3 x4 took flight rate lim round = some (if c = true then (2, l, mn, mat, full, still, rounds, uAdd phase 1, now, high) else if st = 3 then if now ≥ uAdd since 200 then (2, l, mn, mat, full, still, rounds, 2, now, high) else (st, l, mn, mat, full, still, rounds, phase, since, high) else (st, l, mn, mat, full, still, rounds, phase, since, high)) := by
  simp only [probe_Ack.j9]
  rw [add_eq hp (by omega), add_eq hs (by omega)]
  simp only [Option.bind_some, probe_Ack_1.f]
  cases c
  · simp only [Bool.false_eq_true, if_false]
    split
    · split <;> rfl
    · rfl
  · simp only [if_true]
theorem j8_eq (k : Nat) {st mn mat full still rounds phase since high now x1 x2 x3 x4 took flight rate : Int} {l : List S52} {lim round : Bool} (hp : W64 phase) (hs : W64 since) (hm : W64 mn) (c : Bool) : probe_Ack.j8 (k + 2) c st l mn mat full still rounds phase since high now x1 x2 x3 x4 took flight rate lim round = some (if c = true then (3, l, mn, mat, full, still, rounds, phase, now, high) else if st = 2 then if now ≥ uAdd since mn then (2, l, mn, mat, full, still, rounds, uAdd phase 1, now, high) else (st, l, mn, mat, full, still, rounds, phase, since, high) else if st = 3 then if now ≥ uAdd since 200 then (2, l, mn, mat, full, still, rounds, 2, now, high) else (st, l, mn, mat, full, still, rounds, phase, since, high) else (st, l, mn, mat, full, still, rounds, phase, since, high)) := by
  simp only [probe_Ack.j8]
  rw [add_eq hs hm]
  simp only [Option.bind_some, probe_Ack_1.f]
  rw [j9_eq k hp hs, j9_eq k hp hs]
  cases c
  · simp only [Bool.false_eq_true, if_false]
    by_cases h2 : st = 2
    · rw [if_pos h2, if_pos h2]
      subst h2
      by_cases h : now ≥ uAdd since mn
      · simp [h]
      · simp [h]
    · rw [if_neg h2, if_neg h2]
  · simp only [if_true]
theorem move_eq (k : Nat) {st mn mat full still rounds phase since high now x1 x2 x3 x4 took flight rate : Int} {l : List S52} {lim round : Bool} (hl : SWf l) (hp : W64 phase) (hs : W64 since) (hm : W64 mn) (hf : W64 full) (ht : W64 still) (c : Bool) : probe_Ack.j4 (k + 6) c st l mn mat full still rounds phase since high now x1 x2 x3 x4 took flight rate lim round = some (pMove st l mn mat full still rounds phase since high now flight lim round c) := by
  have j7 : ∀ (q s : Bool), probe_Ack.j7 (k + 3) q s st l mn mat full still rounds phase since high now x1 x2 x3 x4 took flight rate lim round = some (if s = true then (2, l, mn, mat, full, still, rounds, 0, now, high) else if st = 2 then (if q = true then (3, l, mn, mat, full, still, rounds, phase, now, high) else if now ≥ uAdd since mn then (2, l, mn, mat, full, still, rounds, uAdd phase 1, now, high) else (st, l, mn, mat, full, still, rounds, phase, since, high)) else if st = 3 then if now ≥ uAdd since 200 then (2, l, mn, mat, full, still, rounds, 2, now, high) else (st, l, mn, mat, full, still, rounds, phase, since, high) else (st, l, mn, mat, full, still, rounds, phase, since, high)) := by
    intro q s
    simp only [probe_Ack.j7]
    rw [j8_eq k hp hs hm, j8_eq k hp hs hm]
    simp only [Option.bind_some, probe_Ack_1.f]
    cases s
    · simp only [Bool.false_eq_true, if_false]
      by_cases h2 : st = 2
      · simp only [if_pos h2]
      · simp only [if_neg h2]
    · simp only [if_true]
  unfold pMove
  simp only [probe_Ack.j4, probe_Ack.j5, probe_Ack.j6, best_eq, Option.bind_some, j7]
  rw [add_eq hf (by rw [wdiv hf 4 (by omega)]; omega), wdiv hf 4 (by omega), add_eq ht (by omega), prod_eq hl hm (by omega)]
  simp only [Option.bind_some]
  by_cases h0 : st = 0
  · subst h0
    cases round
    · simp
    · cases lim
      · by_cases hb : uBest l > 0
        · by_cases hb2 : uBest l ≥ uAdd full (full / 4)
          · simp [hb, hb2]
          · simp [hb, hb2]; split <;> rfl
        · simp [hb]; split <;> rfl
      · simp
  · by_cases h1 : st = 1
    · subst h1
      by_cases h : flight ≤ uProd l mn 256 <;> simp [h]
    · by_cases h2 : st = 2
      · subst h2
        simp
      · simp [h0, h1, h2]
/-- What packets that came make of a model. -/
def pAck (st : Int) (l : List S52) (mn mat full still rounds phase since high now took flight rate : Int) (lim round : Bool) : T10 :=
  let rounds' := if round = true then uAdd rounds 1 else rounds
  let high' := if round = true then uHeld (uAdd high (high / 8)) else high
  let l' := if lim = false ∨ rate ≥ uBest l then uPush l 10 rounds' rate else l
  let stale := decide (now ≥ uAdd mat 10000)
  let mn' := if stale = true ∨ took < mn then took else mn
  let mat' := if stale = true ∨ took < mn then now else mat
  pMove st l' mn' mat' full still rounds' phase since high' now flight lim round stale
theorem ack_eq {k : Nat} {st mn mat full still rounds phase since high now x1 x2 x3 x4 took flight rate : Int} {l : List S52} {lim round : Bool} (hl : SWf l) (hL : l.length < 1000000) (hk : l.length + 10 < k) (hp : W64 phase) (hs : W64 since) (hm : W64 mn) (hmat : W64 mat) (hf : W64 full) (ht : W64 still) (hr : W64 rounds) (hh : W64 high) (hrate : W64 rate) (htook : W64 took) :
    probe_Ack.f k st l mn mat full still rounds phase since high now x1 x2 x3 x4 took flight rate lim round = some (pAck st l mn mat full still rounds phase since high now took flight rate lim round) := by
  obtain ⟨k, rfl⟩ : ∃ m, k = m + 10 := ⟨k - 10, by omega⟩
  have h8 := wdiv hh 8 (by omega)
  have j2 : ∀ (l : List S52) (rounds high : Int), SWf l → probe_Ack.j2 (k + 8) st l mn mat full still rounds phase since high now x1 x2 x3 x4 took flight rate lim round = some (pMove st l (if decide (now ≥ uAdd mat 10000) = true ∨ took < mn then took else mn) (if decide (now ≥ uAdd mat 10000) = true ∨ took < mn then now else mat) full still rounds phase since high now flight lim round (decide (now ≥ uAdd mat 10000))) := by
    intro l rounds high hl
    simp only [probe_Ack.j2, probe_Ack.j3]
    rw [add_eq hmat (by omega)]
    simp only [Option.bind_some]
    by_cases h : now ≥ uAdd mat 10000
    · simp only [h, decide_true, if_true, true_or]
      rw [move_eq k hl hp hs htook hf ht]
    · simp only [h, decide_false, if_false, Bool.false_eq_true, false_or]
      by_cases h2 : took < mn
      · simp only [h2, decide_true, if_true]
        rw [move_eq k hl hp hs htook hf ht]
      · simp only [h2, decide_false, if_false, Bool.false_eq_true]
        rw [move_eq k hl hp hs hm hf ht]
  have j0 : ∀ (rounds high : Int), W64 rounds → probe_Ack.j0 (k + 10) st l mn mat full still rounds phase since high now x1 x2 x3 x4 took flight rate lim round = some (pMove st (if lim = false ∨ rate ≥ uBest l then uPush l 10 rounds rate else l) (if decide (now ≥ uAdd mat 10000) = true ∨ took < mn then took else mn) (if decide (now ≥ uAdd mat 10000) = true ∨ took < mn then now else mat) full still rounds phase since high now flight lim round (decide (now ≥ uAdd mat 10000))) := by
    intro rounds high hr
    simp only [probe_Ack.j0, probe_Ack.j1, best_eq, Option.bind_some]
    rw [push_eq hl (by omega) hr hrate hL (by omega)]
    simp only [Option.bind_some]
    rw [j2 _ _ _ hl, j2 _ _ _ (uPush_wf hl hr hrate)]
    cases lim
    · simp
    · by_cases h : rate ≥ uBest l
      · simp [h]
      · simp [h]
  unfold probe_Ack.f pAck
  rw [clone_eq hL, h8]
  simp only [Option.bind_some]
  rw [add_eq hr (by omega), add_eq hh (by omega)]
  simp only [Option.bind_some, held_eq]
  rw [j0 _ _ hr, j0 _ _ (uAdd_w hr (by omega))]
  cases round <;> simp
end Go.Proofs.Ytoanhimhomgjmaa.ProEq
