/- What packets that came make of a model of a path. -/
import Derived.Deep.DeepMust
import Derived.Test.YtpgffmnbdggpnaaCtlP
import Derived.Test.YtpgffmnbdggpnaaPCvx49
namespace Go.Proofs.Ytpgffmnbdggpnaa.PCv
open Go.RowKit Go.Proofs.YtpgffmnbdggpnaaW.PrintWords Go.Proofs.YtpgffmnbdggpnaaW.PrintLast Go.Proofs.YtpgffmnbdggpnaaW.PrintMore
set_option linter.unusedVariables false
set_option linter.unusedSimpArgs false
def stays (win at_ v : Int) (x : S90) : Bool := decide (at_ ≤ uAdd x.f0 win) && decide (v < x.f1)
def uPush (l : List S90) (win at_ v : Int) : List S90 := l.filter (stays win at_ v) ++ [⟨at_, v⟩]
theorem kept_loop {l : List S90} (hl : SWf l) {win at_ v b0 b1 : Int} (hw : W64 win) (ha : W64 at_) (hv : W64 v) (hL : l.length < 1000000) : ∀ (d k i : Nat) (out : List S90), i + d = l.length → d < k → out.length + d < 8796093022208 → api_Sample_64.l0 k win (at_ * 18446744073709551616 + v) out l (l.length : Int) (i : Int) b0 b1 = some (out ++ (l.drop i).filter (stays win at_ v) ++ [⟨b0, b1⟩]) := by
  intro d
  induction d with
  | zero =>
    intro k i out hi hk ho
    obtain ⟨k, rfl⟩ : ∃ m, k = m + 1 := ⟨k - 1, by omega⟩
    simp only [api_Sample_64.l0]
    rw [if_neg (by omega), if_pos (by omega), List.drop_eq_nil_of_le (by omega)]
    simp
  | succ d ih =>
    intro k i out hi hk ho
    obtain ⟨k, rfl⟩ : ∃ m, k = m + 1 := ⟨k - 1, by omega⟩
    have hlt : i < l.length := by omega
    have hrd : rd_T90 l (i : Int) = l[i] := by unfold rd_T90; simp [List.getD_eq_getElem?_getD, hlt]
    have hmem := hl l[i] (List.getElem_mem hlt)
    have hol : out.length < 8796093022208 := by omega
    have c1 : (i : Int) < (l.length : Int) := by omega
    have c2 : (0 : Int) ≤ (i : Int) := by omega
    have hol2 : (out ++ [(⟨l[i].f0, l[i].f1⟩ : S90)]).length + d < 8796093022208 := by simp; omega
    have hi1 : i + 1 + d = l.length := by omega
    have hk1 : d < k := by omega
    have hod : out.length + d < 8796093022208 := by omega
    have hwr : wrap64 ((i : Int) + 1) = ((i + 1 : Nat) : Int) := by rw [wrap64_is (by omega) (by omega)]; simp
    have hP : filt_PushMax_1.f l[i].f0 l[i].f1 win (at_ * 18446744073709551616 + v) = some (stays win at_ v l[i]) := by
      unfold filt_PushMax_1.f stays
      rw [add_eq hmem.1 hw, show (at_ * 18446744073709551616 + v) / 18446744073709551616 = at_ by omega, show (at_ * 18446744073709551616 + v) % 18446744073709551616 = v by omega]
      rfl
    simp only [api_Sample_64.l0]
    rw [if_pos c1, if_pos c2, if_pos c1, hrd, hP, List.drop_eq_getElem_cons hlt, List.filter_cons, hwr]
    simp only [Option.bind_some]
    cases hb : stays win at_ v l[i] with
    | true =>
      rw [if_pos rfl, if_pos hol, ih k (i + 1) _ hi1 hk1 hol2]
      simp
    | false =>
      rw [if_neg (by simp), ih k (i + 1) _ hi1 hk1 hod]
      simp
theorem push_eq {l : List S90} (hl : SWf l) {win at_ v : Int} (hw : W64 win) (ha : W64 at_) (hv : W64 v) (hL : l.length < 1000000) {k : Nat} (hk : l.length < k) : filt_PushMax.f k l win at_ v = some (uPush l win at_ v) := by
  unfold filt_PushMax.f api_Sample_64.f
  rw [if_pos ⟨ha, hv⟩]
  have := kept_loop hl hw ha hv hL (b0 := at_) (b1 := v) l.length k 0 [] (by omega) hk (by simp; omega)
  simpa [uPush] using this
theorem uPush_wf {l : List S90} (hl : SWf l) {win at_ v : Int} (ha : W64 at_) (hv : W64 v) : SWf (uPush l win at_ v) := by
  intro x hx
  unfold uPush at hx
  rcases List.mem_append.1 hx with h | h
  · exact hl x ((List.mem_filter.1 h).1)
  · obtain rfl := List.mem_singleton.1 h
    exact ⟨ha, hv⟩
theorem uPush_len (l : List S90) (win at_ v : Int) : (uPush l win at_ v).length ≤ l.length + 1 := by
  unfold uPush
  have := List.length_filter_le (stays win at_ v) l
  simp; omega
theorem clone_eq {l : List S90} (hL : l.length < 1000000) : api_Sample_51.f l = some l := by
  unfold api_Sample_51.f
  simp only [Option.bind_some]
  rw [if_pos (by simp; omega)]
  simp

abbrev T10 := Int × List S90 × Int × Int × Int × Int × Int × Int × Int × Int
/-- What becomes of a model's state (the last step of what packets that came make of it). -/
def pMove (st : Int) (l : List S90) (mn mat full still rounds phase since high now flight : Int) (lim round stale : Bool) : T10 :=
  if st = 0 then
    if round = true ∧ lim = false then
      if uBest l > 0 ∧ uBest l ≥ uAdd full (full / 4) then (st, l, mn, mat, uBest l, 0, rounds, phase, since, high)
      else if uAdd still 1 = 3 then (1, l, mn, mat, full, uAdd still 1, rounds, phase, since, high) else (st, l, mn, mat, full, uAdd still 1, rounds, phase, since, high)
    else (st, l, mn, mat, full, still, rounds, phase, since, high)
  else if st = 1 then
    if flight ≤ uProd l mn 256 then (2, l, mn, mat, full, still, rounds, 0, now, high) else (st, l, mn, mat, full, still, rounds, phase, since, high)
  else if st = 2 then
    if stale = true then (3, l, mn, mat, full, still, rounds, phase, now, high)
    else if now ≥ uAdd since mn then (2, l, mn, mat, full, still, rounds, uAdd phase 1, now, high) else (st, l, mn, mat, full, still, rounds, phase, since, high)
  else if st = 3 then
    if now ≥ uAdd since 200 then (2, l, mn, mat, full, still, rounds, 2, now, high) else (st, l, mn, mat, full, still, rounds, phase, since, high)
  else (st, l, mn, mat, full, still, rounds, phase, since, high)
theorem j9_eq (k : Nat) {st mn mat full still rounds phase since high now x1 x2 x3 x4 took flight rate : Int} {l : List S90} {lim round : Bool} (hp : W64 phase) (hs : W64 since) (c : Bool) : probe_Ack.j9 (k + 1) c st l mn mat full still rounds phase since high now x1 x2 x3 x4 took flight rate lim round = some (if c = true then (2, l, mn, mat, full, still, rounds, uAdd phase 1, now, high) else if st = 3 then if now ≥ uAdd since 200 then (2, l, mn, mat, full, still, rounds, 2, now, high) else (st, l, mn, mat, full, still, rounds, phase, since, high) else (st, l, mn, mat, full, still, rounds, phase, since, high)) := by
  simp only [probe_Ack.j9]
  rw [add_eq hp (by omega), add_eq hs (by omega)]
  simp only [Option.bind_some, probe_Ack_1.f]
  cases c
  · simp only [Bool.false_eq_true, if_false]
    split
    · split <;> rfl
    · rfl
  · simp only [if_true]
theorem j8_eq (k : Nat) {st mn mat full still rounds phase since high now x1 x2 x3 x4 took flight rate : Int} {l : List S90} {lim round : Bool} (hp : W64 phase) (hs : W64 since) (hm : W64 mn) (c : Bool) : probe_Ack.j8 (k + 2) c st l mn mat full still rounds phase since high now x1 x2 x3 x4 took flight rate lim round = some (if c = true then (3, l, mn, mat, full, still, rounds, phase, now, high) else if st = 2 then if now ≥ uAdd since mn then (2, l, mn, mat, full, still, rounds, uAdd phase 1, now, high) else (st, l, mn, mat, full, still, rounds, phase, since, high) else if st = 3 then if now ≥ uAdd since 200 then (2, l, mn, mat, full, still, rounds, 2, now, high) else (st, l, mn, mat, full, still, rounds, phase, since, high) else (st, l, mn, mat, full, still, rounds, phase, since, high)) := by
  simp only [probe_Ack.j8]
  rw [add_eq hs hm]
  simp only [Option.bind_some, probe_Ack_1.f]
  rw [j9_eq k hp hs, j9_eq k hp hs]
  cases c
  · simp only [Bool.false_eq_true, if_false]
    by_cases h2 : st = 2
    · rw [if_pos h2, if_pos h2]
      subst h2
      by_cases h : now ≥ uAdd since mn
      · simp [h]
      · simp [h]
    · rw [if_neg h2, if_neg h2]
  · simp only [if_true]
theorem move_eq (k : Nat) {st mn mat full still rounds phase since high now x1 x2 x3 x4 took flight rate : Int} {l : List S90} {lim round : Bool} (hl : SWf l) (hp : W64 phase) (hs : W64 since) (hm : W64 mn) (hf : W64 full) (ht : W64 still) (c : Bool) : probe_Ack.j4 (k + 6) c st l mn mat full still rounds phase since high now x1 x2 x3 x4 took flight rate lim round = some (pMove st l mn mat full still rounds phase since high now flight lim round c) := by
  have j7 : ∀ (q s : Bool), probe_Ack.j7 (k + 3) q s st l mn mat full still rounds phase since high now x1 x2 x3 x4 took flight rate lim round = some (if s = true then (2, l, mn, mat, full, still, rounds, 0, now, high) else if st = 2 then (if q = true then (3, l, mn, mat, full, still, rounds, phase, now, high) else if now ≥ uAdd since mn then (2, l, mn, mat, full, still, rounds, uAdd phase 1, now, high) else (st, l, mn, mat, full, still, rounds, phase, since, high)) else if st = 3 then if now ≥ uAdd since 200 then (2, l, mn, mat, full, still, rounds, 2, now, high) else (st, l, mn, mat, full, still, rounds, phase, since, high) else (st, l, mn, mat, full, still, rounds, phase, since, high)) := by
    intro q s
    simp only [probe_Ack.j7]
    rw [j8_eq k hp hs hm, j8_eq k hp hs hm]
    simp only [Option.bind_some, probe_Ack_1.f]
    cases s
    · simp only [Bool.false_eq_true, if_false]
      by_cases h2 : st = 2
      · simp only [if_pos h2]
      · simp only [if_neg h2]
    · simp only [if_true]
  unfold pMove
  simp only [probe_Ack.j4, probe_Ack.j5, probe_Ack.j6, best_eq, Option.bind_some, j7]
  rw [add_eq hf (by rw [wdiv hf 4 (by omega)]; omega), wdiv hf 4 (by omega), add_eq ht (by omega), prod_eq hl hm (by omega)]
  simp only [Option.bind_some]
  by_cases h0 : st = 0
  · subst h0
    cases round
    · simp
    · cases lim
      · by_cases hb : uBest l > 0
        · by_cases hb2 : uBest l ≥ uAdd full (full / 4)
          · simp [hb, hb2]
          · simp [hb, hb2]; split <;> rfl
        · simp [hb]; split <;> rfl
      · simp
  · by_cases h1 : st = 1
    · subst h1
      by_cases h : flight ≤ uProd l mn 256 <;> simp [h]
    · by_cases h2 : st = 2
      · subst h2
        simp
      · simp [h0, h1, h2]
/-- What packets that came make of a model. -/
def pAck (st : Int) (l : List S90) (mn mat full still rounds phase since high now took flight rate : Int) (lim round : Bool) : T10 :=
  let rounds' := if round = true then uAdd rounds 1 else rounds
  let high' := if round = true then uHeld (uAdd high (high / 8)) else high
  let l' := if lim = false ∨ rate ≥ uBest l then uPush l 10 rounds' rate else l
  let stale := decide (now ≥ uAdd mat 10000)
  let mn' := if stale = true ∨ took < mn then took else mn
  let mat' := if stale = true ∨ took < mn then now else mat
  pMove st l' mn' mat' full still rounds' phase since high' now flight lim round stale
theorem ack_eq {k : Nat} {st mn mat full still rounds phase since high now x1 x2 x3 x4 took flight rate : Int} {l : List S90} {lim round : Bool} (hl : SWf l) (hL : l.length < 1000000) (hk : l.length + 10 < k) (hp : W64 phase) (hs : W64 since) (hm : W64 mn) (hmat : W64 mat) (hf : W64 full) (ht : W64 still) (hr : W64 rounds) (hh : W64 high) (hrate : W64 rate) (htook : W64 took) :
    probe_Ack.f k st l mn mat full still rounds phase since high now x1 x2 x3 x4 took flight rate lim round = some (pAck st l mn mat full still rounds phase since high now took flight rate lim round) := by
  obtain ⟨k, rfl⟩ : ∃ m, k = m + 10 := ⟨k - 10, by omega⟩
  have h8 := wdiv hh 8 (by omega)
  have j2 : ∀ (l : List S90) (rounds high : Int), SWf l → probe_Ack.j2 (k + 8) st l mn mat full still rounds phase since high now x1 x2 x3 x4 took flight rate lim round = some (pMove st l (if decide (now ≥ uAdd mat 10000) = true ∨ took < mn then took else mn) (if decide (now ≥ uAdd mat 10000) = true ∨ took < mn then now else mat) full still rounds phase since high now flight lim round (decide (now ≥ uAdd mat 10000))) := by
    intro l rounds high hl
    simp only [probe_Ack.j2, probe_Ack.j3]
    rw [add_eq hmat (by omega)]
    simp only [Option.bind_some]
    by_cases h : now ≥ uAdd mat 10000
    · simp only [h, decide_true, if_true, true_or]
      rw [move_eq k hl hp hs htook hf ht]
    · simp only [h, decide_false, if_false, Bool.false_eq_true, false_or]
      by_cases h2 : took < mn
      · simp only [h2, decide_true, if_true]
        rw [move_eq k hl hp hs htook hf ht]
      · simp only [h2, decide_false, if_false, Bool.false_eq_true]
        rw [move_eq k hl hp hs hm hf ht]
  have j0 : ∀ (rounds high : Int), W64 rounds → probe_Ack.j0 (k + 10) st l mn mat full still rounds phase since high now x1 x2 x3 x4 took flight rate lim round = some (pMove st (if lim = false ∨ rate ≥ uBest l then uPush l 10 rounds rate else l) (if decide (now ≥ uAdd mat 10000) = true ∨ took < mn then took else mn) (if decide (now ≥ uAdd mat 10000) = true ∨ took < mn then now else mat) full still rounds phase since high now flight lim round (decide (now ≥ uAdd mat 10000))) := by
    intro rounds high hr
    simp only [probe_Ack.j0, probe_Ack.j1, best_eq, Option.bind_some]
    rw [push_eq hl (by omega) hr hrate hL (by omega)]
    simp only [Option.bind_some]
    rw [j2 _ _ _ hl, j2 _ _ _ (uPush_wf hl hr hrate)]
    cases lim
    · simp
    · by_cases h : rate ≥ uBest l
      · simp [h]
      · simp [h]
  unfold probe_Ack.f pAck
  rw [clone_eq hL, h8]
  simp only [Option.bind_some]
  rw [add_eq hr (by omega), add_eq hh (by omega)]
  simp only [Option.bind_some, held_eq]
  rw [j0 _ _ hr, j0 _ _ (uAdd_w hr (by omega))]
  cases round <;> simp
/-- What packets that came make of a model: it is a model. -/
theorem probeW (p0 p2 p3 p4 p5 p6 p7 p8 p9 g0 g1 g2 g3 g4 g5 g6 g7 : Int) (g8 g9 : Bool) (A : Option Addr) (k : Nat) (l : List S90) (h2 : W64 p2) (h3 : W64 p3) (h4 : W64 p4) (h5 : W64 p5) (h6 : W64 p6) (h7 : W64 p7) (h8 : W64 p8) (h9 : W64 p9) (b5 : W64 g5) (b7 : W64 g7) (w : World) (hr : Kd.C k90 w A l.length l) (hc : l.length ≤ k) (hl : SWf l) (hL : l.length < 1000000) :
    Calls Try.prog 22 #[.agg #[.int .i64 p0, .slice A l.length k, .int .u64 p2, .int .u64 p3, .int .u64 p4, .int .u64 p5, .int .u64 p6, .int .u64 p7, .int .u64 p8, .int .u64 p9], .agg #[.int .u64 g0, .int .u64 g1, .int .u64 g2, .int .u64 g3, .int .u64 g4, .int .u64 g5, .int .u64 g6, .int .u64 g7, .bool g8, .bool g9]] w fun e w' => ∃ (q0 : Int) (qA : Option Addr) (qn qk : Nat) (q2 q3 q4 q5 q6 q7 q8 q9 : Int), e = .returned (.agg #[.int .i64 q0, .slice qA qn qk, .int .u64 q2, .int .u64 q3, .int .u64 q4, .int .u64 q5, .int .u64 q6, .int .u64 q7, .int .u64 q8, .int .u64 q9]) ∧ Below w.heap.size w w' := by
  obtain ⟨r, hr_⟩ : ∃ r, r = pAck p0 l p2 p3 p4 p5 p6 p7 p8 p9 g0 g5 g6 g7 g8 g9 := ⟨_, rfl⟩
  have h := ack_eq (k := l.length + 11) (st := p0) (l := l) (mn := p2) (mat := p3) (full := p4) (still := p5) (rounds := p6) (phase := p7) (since := p8) (high := p9) (now := g0) (x1 := g1) (x2 := g2) (x3 := g3) (x4 := g4) (took := g5) (flight := g6) (rate := g7) (lim := g8) (round := g9) hl hL (by omega) h7 h8 h2 h3 h4 h5 h6 h9 b7 b5
  rw [← hr_] at h
  obtain ⟨r1, r2, r3, r4, r5, r6, r7, r8, r9, r10⟩ := r
  refine (probe_Ack.calls _ _ _ _ _ _ _ _ _ _ _ _ _ _ _ _ _ _ _ _ _ _ _ _ _ _ _ _ _ _ _ _ _ w hr hc h).mono ?_
  rintro e w' ⟨v, rfl, hR, hb⟩
  obtain ⟨qA, qk, rfl⟩ := Kd.R_slice hR
  exact ⟨_, _, _, _, _, _, _, _, _, _, _, _, rfl, hb⟩
end Go.Proofs.Ytpgffmnbdggpnaa.PCv
