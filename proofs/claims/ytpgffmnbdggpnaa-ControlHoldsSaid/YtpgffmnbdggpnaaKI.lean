/- Several texts of this claim in one. -/
import Derived.Deep.DeepMust
import Derived.Test.YtpgffmnbdggpnaaKB
import Derived.Test.YtpgffmnbdggpnaaKPCvx49
import Derived.Test.YtpgffmnbdggpnaaKW
import Derived.Test.YtpgffmnbdggpnaaKC
import Derived.Test.YtpgffmnbdggpnaaKF
section
namespace Go.Proofs.Ytpgffmnbdggpnaa.PCv
open Go.RowKit Go.Proofs.YtpgffmnbdggpnaaW.PrintWords Go.Proofs.YtpgffmnbdggpnaaW.PrintLast Go.Proofs.YtpgffmnbdggpnaaW.PrintMore
set_option linter.unusedVariables false
set_option linter.unusedSimpArgs false
def stays (win at_ v : Int) (x : S90) : Bool := decide (at_ ≤ uAdd x.f0 win) && decide (v < x.f1)
def uPush (l : List S90) (win at_ v : Int) : List S90 := l.filter (stays win at_ v) ++ [⟨at_, v⟩]
theorem kept_loop {l : List S90} (hl : SWf l) {win at_ v b0 b1 : Int} (hw : W64 win) (ha : W64 at_) (hv : W64 v) (hL : l.length < 1000000) : ∀ (d k i : Nat) (out : List S90), i + d = l.length → d < k → out.length + d < 8796093022208 → api_Sample_64.l0 k win (at_ * 18446744073709551616 + v) out l (l.length : Int) (i : Int) b0 b1 = some (out ++ (l.drop i).filter (stays win at_ v) ++ [⟨b0, b1⟩]) := by
 intro d
 induction d with
 | zero =>
  intro k i out hi hk ho
  obtain ⟨k, rfl⟩ : ∃ m, k = m + 1 := ⟨k - 1, by omega⟩
  simp only [api_Sample_64.l0]
  rw [if_neg (by omega), if_pos (by omega), List.drop_eq_nil_of_le (by omega)]
  simp
 | succ d ih =>
  intro k i out hi hk ho
  obtain ⟨k, rfl⟩ : ∃ m, k = m + 1 := ⟨k - 1, by omega⟩
  have hlt : i < l.length := by omega
  have hrd : rd_T90 l (i : Int) = l[i] := by unfold rd_T90; simp [List.getD_eq_getElem?_getD, hlt]
  have hmem := hl l[i] (List.getElem_mem hlt)
  have hol : out.length < 8796093022208 := by omega
  have c1 : (i : Int) < (l.length : Int) := by omega
  have c2 : (0 : Int) ≤ (i : Int) := by omega
  have hol2 : (out ++ [(⟨l[i].f0, l[i].f1⟩ : S90)]).length + d < 8796093022208 := by simp; omega
  have hi1 : i + 1 + d = l.length := by omega
  have hk1 : d < k := by omega
  have hod : out.length + d < 8796093022208 := by omega
  have hwr : wrap64 ((i : Int) + 1) = ((i + 1 : Nat) : Int) := by rw [wrap64_is (by omega) (by omega)]; simp
  have hP : filt_PushMax_1.f l[i].f0 l[i].f1 win (at_ * 18446744073709551616 + v) = some (stays win at_ v l[i]) := by
   unfold filt_PushMax_1.f stays
   rw [add_eq hmem.1 hw, show (at_ * 18446744073709551616 + v) / 18446744073709551616 = at_ by omega, show (at_ * 18446744073709551616 + v) % 18446744073709551616 = v by omega]
   rfl
  simp only [api_Sample_64.l0]
  rw [if_pos c1, if_pos c2, if_pos c1, hrd, hP, List.drop_eq_getElem_cons hlt, List.filter_cons, hwr]
  simp only [Option.bind_some]
  cases hb : stays win at_ v l[i] with
  | true =>
   rw [if_pos rfl, if_pos hol, ih k (i + 1) _ hi1 hk1 hol2]
   simp
  | false =>
   rw [if_neg (by simp), ih k (i + 1) _ hi1 hk1 hod]
   simp
theorem push_eq {l : List S90} (hl : SWf l) {win at_ v : Int} (hw : W64 win) (ha : W64 at_) (hv : W64 v) (hL : l.length < 1000000) {k : Nat} (hk : l.length < k) : filt_PushMax.f k l win at_ v = some (uPush l win at_ v) := by
 unfold filt_PushMax.f api_Sample_64.f
 rw [if_pos ⟨ha, hv⟩]
 have := kept_loop hl hw ha hv hL (b0 := at_) (b1 := v) l.length k 0 [] (by omega) hk (by simp; omega)
 simpa [uPush] using this
theorem uPush_wf {l : List S90} (hl : SWf l) {win at_ v : Int} (ha : W64 at_) (hv : W64 v) : SWf (uPush l win at_ v) := by
 intro x hx
 unfold uPush at hx
 rcases List.mem_append.1 hx with h | h
 ·exact hl x ((List.mem_filter.1 h).1)
 ·obtain rfl := List.mem_singleton.1 h
  exact ⟨ha, hv⟩
theorem uPush_len (l : List S90) (win at_ v : Int) : (uPush l win at_ v).length ≤ l.length + 1 := by
 unfold uPush
 have := List.length_filter_le (stays win at_ v) l
 simp; omega
theorem clone_eq {l : List S90} (hL : l.length < 1000000) : api_Sample_51.f l = some l := by
 unfold api_Sample_51.f
 simp only [Option.bind_some]
 rw [if_pos (by simp; omega)]
 simp
abbrev T10 := Int × List S90 × Int × Int × Int × Int × Int × Int × Int × Int
def pMove (st : Int) (l : List S90) (mn mat full still rounds phase since high now flight : Int) (lim round stale : Bool) : T10 :=
 if st = 0 then
  if round = true ∧ lim = false then
   if uBest l > 0 ∧ uBest l ≥ uAdd full (full / 4) then (st, l, mn, mat, uBest l, 0, rounds, phase, since, high)
   else if uAdd still 1 = 3 then (1, l, mn, mat, full, uAdd still 1, rounds, phase, since, high) else (st, l, mn, mat, full, uAdd still 1, rounds, phase, since, high)
  else (st, l, mn, mat, full, still, rounds, phase, since, high)
 else if st = 1 then
  if flight ≤ uProd l mn 256 then (2, l, mn, mat, full, still, rounds, 0, now, high) else (st, l, mn, mat, full, still, rounds, phase, since, high)
 else if st = 2 then
  if stale = true then (3, l, mn, mat, full, still, rounds, phase, now, high)
  else if now ≥ uAdd since mn then (2, l, mn, mat, full, still, rounds, uAdd phase 1, now, high) else (st, l, mn, mat, full, still, rounds, phase, since, high)
 else if st = 3 then
  if now ≥ uAdd since 200 then (2, l, mn, mat, full, still, rounds, 2, now, high) else (st, l, mn, mat, full, still, rounds, phase, since, high)
 else (st, l, mn, mat, full, still, rounds, phase, since, high)
theorem j9_eq (k : Nat) {st mn mat full still rounds phase since high now x1 x2 x3 x4 took flight rate : Int} {l : List S90} {lim round : Bool} (hp : W64 phase) (hs : W64 since) (c : Bool) : probe_Ack.j9 (k + 1) c st l mn mat full still rounds phase since high now x1 x2 x3 x4 took flight rate lim round = some (if c = true then (2, l, mn, mat, full, still, rounds, uAdd phase 1, now, high) else if st = 3 then if now ≥ uAdd since 200 then (2, l, mn, mat, full, still, rounds, 2, now, high) else (st, l, mn, mat, full, still, rounds, phase, since, high) else (st, l, mn, mat, full, still, rounds, phase, since, high)) := by
 simp only [probe_Ack.j9]
 rw [add_eq hp (by omega), add_eq hs (by omega)]
 simp only [Option.bind_some, probe_Ack_1.f]
 cases c
 ·simp only [Bool.false_eq_true, if_false]
  split
  ·split <;> rfl
  ·rfl
 ·simp only [if_true]
theorem j8_eq (k : Nat) {st mn mat full still rounds phase since high now x1 x2 x3 x4 took flight rate : Int} {l : List S90} {lim round : Bool} (hp : W64 phase) (hs : W64 since) (hm : W64 mn) (c : Bool) : probe_Ack.j8 (k + 2) c st l mn mat full still rounds phase since high now x1 x2 x3 x4 took flight rate lim round = some (if c = true then (3, l, mn, mat, full, still, rounds, phase, now, high) else if st = 2 then if now ≥ uAdd since mn then (2, l, mn, mat, full, still, rounds, uAdd phase 1, now, high) else (st, l, mn, mat, full, still, rounds, phase, since, high) else if st = 3 then if now ≥ uAdd since 200 then (2, l, mn, mat, full, still, rounds, 2, now, high) else (st, l, mn, mat, full, still, rounds, phase, since, high) else (st, l, mn, mat, full, still, rounds, phase, since, high)) := by
 simp only [probe_Ack.j8]
 rw [add_eq hs hm]
 simp only [Option.bind_some, probe_Ack_1.f]
 rw [j9_eq k hp hs, j9_eq k hp hs]
 cases c
 ·simp only [Bool.false_eq_true, if_false]
  by_cases h2 : st = 2
  ·rw [if_pos h2, if_pos h2]
   subst h2
   by_cases h : now ≥ uAdd since mn
   ·simp [h]
   ·simp [h]
  ·rw [if_neg h2, if_neg h2]
 ·simp only [if_true]
theorem move_eq (k : Nat) {st mn mat full still rounds phase since high now x1 x2 x3 x4 took flight rate : Int} {l : List S90} {lim round : Bool} (hl : SWf l) (hp : W64 phase) (hs : W64 since) (hm : W64 mn) (hf : W64 full) (ht : W64 still) (c : Bool) : probe_Ack.j4 (k + 6) c st l mn mat full still rounds phase since high now x1 x2 x3 x4 took flight rate lim round = some (pMove st l mn mat full still rounds phase since high now flight lim round c) := by
 have j7 : ∀ (q s : Bool), probe_Ack.j7 (k + 3) q s st l mn mat full still rounds phase since high now x1 x2 x3 x4 took flight rate lim round = some (if s = true then (2, l, mn, mat, full, still, rounds, 0, now, high) else if st = 2 then (if q = true then (3, l, mn, mat, full, still, rounds, phase, now, high) else if now ≥ uAdd since mn then (2, l, mn, mat, full, still, rounds, uAdd phase 1, now, high) else (st, l, mn, mat, full, still, rounds, phase, since, high)) else if st = 3 then if now ≥ uAdd since 200 then (2, l, mn, mat, full, still, rounds, 2, now, high) else (st, l, mn, mat, full, still, rounds, phase, since, high) else (st, l, mn, mat, full, still, rounds, phase, since, high)) := by
  intro q s
  simp only [probe_Ack.j7]
  rw [j8_eq k hp hs hm, j8_eq k hp hs hm]
  simp only [Option.bind_some, probe_Ack_1.f]
  cases s
  ·simp only [Bool.false_eq_true, if_false]
   by_cases h2 : st = 2
   ·simp only [if_pos h2]
   ·simp only [if_neg h2]
  ·simp only [if_true]
 unfold pMove
 simp only [probe_Ack.j4, probe_Ack.j5, probe_Ack.j6, best_eq, Option.bind_some, j7]
 rw [add_eq hf (by rw [wdiv hf 4 (by omega)]; omega), wdiv hf 4 (by omega), add_eq ht (by omega), prod_eq hl hm (by omega)]
 simp only [Option.bind_some]
 by_cases h0 : st = 0
 ·subst h0
  cases round
  ·simp
  ·cases lim
   ·by_cases hb : uBest l > 0
    ·by_cases hb2 : uBest l ≥ uAdd full (full / 4)
     ·simp [hb, hb2]
     ·simp [hb, hb2]; split <;> rfl
    ·simp [hb]; split <;> rfl
   ·simp
 ·by_cases h1 : st = 1
  ·subst h1
   by_cases h : flight ≤ uProd l mn 256 <;> simp [h]
  ·by_cases h2 : st = 2
   ·subst h2
    simp
   ·simp [h0, h1, h2]
def pAck (st : Int) (l : List S90) (mn mat full still rounds phase since high now took flight rate : Int) (lim round : Bool) : T10 :=
 let rounds' := if round = true then uAdd rounds 1 else rounds
 let high' := if round = true then uHeld (uAdd high (high / 8)) else high
 let l' := if lim = false ∨ rate ≥ uBest l then uPush l 10 rounds' rate else l
 let stale := decide (now ≥ uAdd mat 10000)
 let mn' := if stale = true ∨ took < mn then took else mn
 let mat' := if stale = true ∨ took < mn then now else mat
 pMove st l' mn' mat' full still rounds' phase since high' now flight lim round stale
theorem ack_eq {k : Nat} {st mn mat full still rounds phase since high now x1 x2 x3 x4 took flight rate : Int} {l : List S90} {lim round : Bool} (hl : SWf l) (hL : l.length < 1000000) (hk : l.length + 10 < k) (hp : W64 phase) (hs : W64 since) (hm : W64 mn) (hmat : W64 mat) (hf : W64 full) (ht : W64 still) (hr : W64 rounds) (hh : W64 high) (hrate : W64 rate) (htook : W64 took) :
  probe_Ack.f k st l mn mat full still rounds phase since high now x1 x2 x3 x4 took flight rate lim round = some (pAck st l mn mat full still rounds phase since high now took flight rate lim round) := by
 obtain ⟨k, rfl⟩ : ∃ m, k = m + 10 := ⟨k - 10, by omega⟩
 have h8 := wdiv hh 8 (by omega)
 have j2 : ∀ (l : List S90) (rounds high : Int), SWf l → probe_Ack.j2 (k + 8) st l mn mat full still rounds phase since high now x1 x2 x3 x4 took flight rate lim round = some (pMove st l (if decide (now ≥ uAdd mat 10000) = true ∨ took < mn then took else mn) (if decide (now ≥ uAdd mat 10000) = true ∨ took < mn then now else mat) full still rounds phase since high now flight lim round (decide (now ≥ uAdd mat 10000))) := by
  intro l rounds high hl
  simp only [probe_Ack.j2, probe_Ack.j3]
  rw [add_eq hmat (by omega)]
  simp only [Option.bind_some]
  by_cases h : now ≥ uAdd mat 10000
  ·simp only [h, decide_true, if_true, true_or]
   rw [move_eq k hl hp hs htook hf ht]
  ·simp only [h, decide_false, if_false, Bool.false_eq_true, false_or]
   by_cases h2 : took < mn
   ·simp only [h2, decide_true, if_true]
    rw [move_eq k hl hp hs htook hf ht]
   ·simp only [h2, decide_false, if_false, Bool.false_eq_true]
    rw [move_eq k hl hp hs hm hf ht]
 have j0 : ∀ (rounds high : Int), W64 rounds → probe_Ack.j0 (k + 10) st l mn mat full still rounds phase since high now x1 x2 x3 x4 took flight rate lim round = some (pMove st (if lim = false ∨ rate ≥ uBest l then uPush l 10 rounds rate else l) (if decide (now ≥ uAdd mat 10000) = true ∨ took < mn then took else mn) (if decide (now ≥ uAdd mat 10000) = true ∨ took < mn then now else mat) full still rounds phase since high now flight lim round (decide (now ≥ uAdd mat 10000))) := by
  intro rounds high hr
  simp only [probe_Ack.j0, probe_Ack.j1, best_eq, Option.bind_some]
  rw [push_eq hl (by omega) hr hrate hL (by omega)]
  simp only [Option.bind_some]
  rw [j2 _ _ _ hl, j2 _ _ _ (uPush_wf hl hr hrate)]
  cases lim
  ·simp
  ·by_cases h : rate ≥ uBest l
   ·simp [h]
   ·simp [h]
 unfold probe_Ack.f pAck
 rw [clone_eq hL, h8]
 simp only [Option.bind_some]
 rw [add_eq hr (by omega), add_eq hh (by omega)]
 simp only [Option.bind_some, held_eq]
 rw [j0 _ _ hr, j0 _ _ (uAdd_w hr (by omega))]
 cases round <;> simp
end Go.Proofs.Ytpgffmnbdggpnaa.PCv
end
section
namespace Go.Proofs.Ytpgffmnbdggpnaa.PCv
open Go.RowKit Go.Proofs.YtpgffmnbdggpnaaW.PrintWords Go.Proofs.YtpgffmnbdggpnaaW.PrintLast Go.Proofs.YtpgffmnbdggpnaaW.PrintMore
set_option linter.unusedVariables false
set_option linter.unusedSimpArgs false
set_option maxRecDepth 100000
set_option maxHeartbeats 8000000
def uWin (p0 : Int) (l : List S90) (mn_ high : Int) : Int :=
 if p0 = 3 then 4800 else if uProd l mn_ 256 = 0 then 12000
 else if high ≥ 4800 then max (min (uHeld (uProd l mn_ (if p0 = 0 then 739 else 512))) high) 4800 else min (uHeld (uProd l mn_ (if p0 = 0 then 739 else 512))) high
structure RB (w : World) (A : Option Addr) (l : List S90) : Prop where mk :: (out : Kd.C k90 w A l.length l)
theorem RB.below {w w1 : World} {A : Option Addr} {l : List S90} (h : RB w A l) (hb : Below w.heap.size w w1) : RB w1 A l := ⟨Kd.C_below h.out hb⟩
def NE (A : Option Addr) (l : List S90) (g : Nat) : Prop := ∀ ad, A = some ad → 0 < l.length → ad.block ≠ g
def FR (w : World) (A : Option Addr) (l : List S90) (A' : Option Addr) (l' : List S90) : Prop := (A' = A ∧ l' = l) ∨ ∀ ad, A' = some ad → 0 < l'.length → w.heap.size ≤ ad.block
theorem RB.lt {w : World} {A : Option Addr} {l : List S90} (h : RB w A l) {ad : Addr} (e : A = some ad) (hp : 0 < l.length) : ad.block < w.heap.size := by
 obtain ⟨_, _, h2⟩ := h.out
 obtain ⟨ad', e', hc⟩ := h2 hp
 rw [e] at e'
 cases e'
 obtain ⟨c, _, hr, hcell⟩ := hc 0 _ (List.getElem?_eq_getElem hp)
 obtain rfl := k90_open hr
 have := World.block_lt_of_cell? w _ (hcell 0 _ rfl)
 rwa [add_block] at this
theorem RB.ne_new {w : World} {A : Option Addr} {l : List S90} {g : Nat} (h : RB w A l) (hg : g = w.heap.size) : NE A l g := fun ad e hp he => by
 have := h.lt e hp
 omega
theorem RB.grown {w w1 : World} {A : Option Addr} {l : List S90} {g : Nat} (h : RB w A l) (hg : w.grownBy w1 (some g)) (ne : NE A l g) : RB w1 A l := by
 refine ⟨h.out.1, h.out.2.1, fun hn => ?_⟩
 obtain ⟨ad, e, hc⟩ := h.out.2.2 hn
 refine ⟨ad, e, fun j p hj => ?_⟩
 obtain ⟨c, hs, hr, hcell⟩ := hc j p hj
 obtain rfl := k90_open hr
 refine ⟨_, hs, k90_mk w1 p, fun i u hu => ?_⟩
 have hk := hcell i u hu
 have hlt := World.block_lt_of_cell? w _ hk
 have hb : w1.heap[(ad.add (j * k90.sz + i)).block]? = w.heap[(ad.add (j * k90.sz + i)).block]? := hg.block _ hlt (fun he => by
  injection he with he
  rw [add_block] at he
  exact ne ad e hn he)
 exact (World.cell?_of_block (w := w) hb).trans hk
theorem NE_old {w : World} {A : Option Addr} {l : List S90} {g : Nat} (h : RB w A l) (hg : w.heap.size ≤ g) : NE A l g := fun ad e hp he => by
 have := h.lt e hp
 omega
theorem FR.ne {w : World} {A A' : Option Addr} {l l' : List S90} (h : FR w A l A' l') {g : Nat} {t : TypeId} {cs : List Value} (hn : NE A l g) (hB : Blk w g t cs) : NE A' l' g := by
 intro ad e hp he
 rcases h with h | h
 ·obtain ⟨h, hl⟩ := h
  subst h hl
  exact hn ad e hp he
 ·have := h ad e hp
  have := hB.lt
  omega
theorem FR.mono {w w1 : World} {A A' : Option Addr} {l l' : List S90} (h : FR w1 A l A' l') (hs : w.heap.size ≤ w1.heap.size) : FR w A l A' l' := h.imp id (fun h ad e hp => Nat.le_trans hs (h ad e hp))
structure Mod (st : Int) (l : List S90) (m mat full still rounds phase since high : Int) : Prop where
 s0 : 0 ≤ st
 s1 : st ≤ 3
 hl : SWf l
 hm : W64 m
 hmat : W64 mat
 hf : W64 full
 ht : W64 still
 hr : W64 rounds
 hp : W64 phase
 hs : W64 since
 g0 : 2400 ≤ high
 g1 : high ≤ 16777216
theorem move_inv {st m mat full still rounds phase since high now flight : Int} {l : List S90} {lim round stale : Bool} (h : Mod st l m mat full still rounds phase since high) (hn : W64 now) :
  ∃ st' full' still' phase' since', pMove st l m mat full still rounds phase since high now flight lim round stale = (st', l, m, mat, full', still', rounds, phase', since', high) ∧ Mod st' l m mat full' still' rounds phase' since' high ∧ (0 < st → st' ≠ 0) ∧ (1 < st → st' ≠ 1) := by
 obtain ⟨s0, s1, hl, hm, hmat, hf, ht, hr, hp, hs, g0, g1⟩ := h
 have w1 := uAdd_w ht (show W64 1 by omega)
 have w2 := uAdd_w hp (show W64 1 by omega)
 have w3 := best_w hl
 unfold pMove
 generalize uAdd still 1 = t1 at *
 generalize uAdd phase 1 = p1 at *
 generalize uBest l = b at *
 generalize uAdd full (full / 4) = q1
 generalize uProd l m 256 = q2
 generalize uAdd since m = q3
 generalize uAdd since 200 = q4
 repeat' split
 all_goals exact ⟨_, _, _, _, _, rfl, ⟨by omega, by omega, hl, hm, hmat, by assumption, by first | assumption | omega, hr, by first | assumption | omega, by assumption, g0, g1⟩, by omega, by omega⟩
theorem ack_inv {st m mat full still rounds phase since high now took flight rate : Int} {l : List S90} {lim round : Bool} (h : Mod st l m mat full still rounds phase since high) (hn : W64 now) (htk : W64 took) (hrt : W64 rate) :
  ∃ st' l' m' mat' full' still' rounds' phase' since' high', pAck st l m mat full still rounds phase since high now took flight rate lim round = (st', l', m', mat', full', still', rounds', phase', since', high') ∧ Mod st' l' m' mat' full' still' rounds' phase' since' high' ∧ (0 < st → st' ≠ 0) ∧ (1 < st → st' ≠ 1) ∧ l'.length ≤ l.length + 1 := by
 have h_ := h
 obtain ⟨s0, s1, hl, hm, hmat, hf, ht, hr, hp, hs, g0, g1⟩ := h_
 unfold pAck
 dsimp only
 have e1 : W64 (if round = true then uAdd rounds 1 else rounds) := by
  split
  ·exact uAdd_w hr (by omega)
  ·exact hr
 have e2 : 2400 ≤ (if round = true then uHeld (uAdd high (high / 8)) else high) ∧ (if round = true then uHeld (uAdd high (high / 8)) else high) ≤ 16777216 := by
  split
  ·exact uHeld_in _
  ·exact ⟨g0, g1⟩
 generalize (if round = true then uAdd rounds 1 else rounds) = rounds2 at *
 generalize (if round = true then uHeld (uAdd high (high / 8)) else high) = high2 at *
 have e3 : SWf (if lim = false ∨ rate ≥ uBest l then uPush l 10 rounds2 rate else l) := by
  split
  ·exact uPush_wf hl e1 hrt
  ·exact hl
 have e4 : (if lim = false ∨ rate ≥ uBest l then uPush l 10 rounds2 rate else l).length ≤ l.length + 1 := by
  split
  ·exact uPush_len ..
  ·omega
 generalize (if lim = false ∨ rate ≥ uBest l then uPush l 10 rounds2 rate else l) = l2 at *
 generalize decide (now ≥ uAdd mat 10000) = stale
 have e5 : W64 (if stale = true ∨ took < m then took else m) := by
  split
  ·exact htk
  ·exact hm
 have e6 : W64 (if stale = true ∨ took < m then now else mat) := by
  split
  ·exact hn
  ·exact hmat
 generalize (if stale = true ∨ took < m then took else m) = m2 at *
 generalize (if stale = true ∨ took < m then now else mat) = mat2 at *
 obtain ⟨st', full', still', phase', since', he, hM, h0, h1⟩ := move_inv (flight := flight) (lim := lim) (round := round) (stale := stale) (⟨s0, s1, e3, e5, e6, hf, ht, e1, hp, hs, e2.1, e2.2⟩ : Mod st l2 m2 mat2 full still rounds2 phase since high2) hn
 exact ⟨_, _, _, _, _, _, _, _, _, _, he, hM, h0, h1, e4⟩
theorem probeQ (p0 p2 p3 p4 p5 p6 p7 p8 p9 g0 g1 g2 g3 g4 g5 g6 g7 : Int) (g8 g9 : Bool) (A : Option Addr) (k : Nat) (l : List S90) (hm : Mod p0 l p2 p3 p4 p5 p6 p7 p8 p9) (b0 : W64 g0) (b5 : W64 g5) (b7 : W64 g7) (w : World) (hr : RB w A l) (hc : l.length ≤ k) (hL : l.length < 1000000) :
  Calls Try.prog 22 #[.agg #[.int .i64 p0, .slice A l.length k, .int .u64 p2, .int .u64 p3, .int .u64 p4, .int .u64 p5, .int .u64 p6, .int .u64 p7, .int .u64 p8, .int .u64 p9], .agg #[.int .u64 g0, .int .u64 g1, .int .u64 g2, .int .u64 g3, .int .u64 g4, .int .u64 g5, .int .u64 g6, .int .u64 g7, .bool g8, .bool g9]] w fun e w' => ∃ (q0 : Int) (qA : Option Addr) (qk : Nat) (ql : List S90) (q2 q3 q4 q5 q6 q7 q8 q9 : Int), e = .returned (.agg #[.int .i64 q0, .slice qA ql.length qk, .int .u64 q2, .int .u64 q3, .int .u64 q4, .int .u64 q5, .int .u64 q6, .int .u64 q7, .int .u64 q8, .int .u64 q9]) ∧ Mod q0 ql q2 q3 q4 q5 q6 q7 q8 q9 ∧ ql.length ≤ l.length + 1 ∧ ql.length ≤ qk ∧ RB w' qA ql ∧ FR w A l qA ql ∧ Below w.heap.size w w' := by
 obtain ⟨q0, ql, q2, q3, q4, q5, q6, q7, q8, q9, he, hM, _, _, hlen⟩ := ack_inv (lim := g8) (round := g9) (flight := g6) hm b0 b5 b7
 have h := ack_eq (k := l.length + 11) (st := p0) (l := l) (mn := p2) (mat := p3) (full := p4) (still := p5) (rounds := p6) (phase := p7) (since := p8) (high := p9) (now := g0) (x1 := g1) (x2 := g2) (x3 := g3) (x4 := g4) (took := g5) (flight := g6) (rate := g7) (lim := g8) (round := g9) hm.hl hL (by omega) hm.hp hm.hs hm.hm hm.hmat hm.hf hm.ht hm.hr ⟨by have := hm.g0; omega, by have := hm.g1; omega⟩ b7 b5
 rw [he] at h
 refine (probe_Ack.calls _ _ _ _ _ _ _ _ _ _ _ _ _ _ _ _ _ _ _ _ _ _ _ _ _ _ _ _ _ _ _ _ _ w hr.out hc h).mono ?_
 rintro e w' ⟨v, rfl, hR, hb⟩
 obtain ⟨qA, qk, rfl⟩ := Kd.R_slice hR
 obtain ⟨_, hk, hC⟩ := Kd.R_reads' hR
 refine ⟨_, _, _, _, _, _, _, _, _, _, _, _, rfl, hM, hlen, hk, ⟨hC⟩, .inr fun ad e hp => ?_, hb⟩
 obtain ⟨inner, ho⟩ := Kd.R_own hR
 exact own_base ho _ (by rw [e]; rfl)
theorem win_in {st m high : Int} {l : List S90} (g0 : 2400 ≤ high) (g1 : high ≤ 16777216) : 2400 ≤ uWin st l m high ∧ uWin st l m high ≤ 16777216 := by
 unfold uWin
 generalize uProd l m (if st = 0 then 739 else 512) = x
 generalize uProd l m 256 = y
 have := uHeld_in x
 split
 ·omega
 ·split
  ·omega
  ·split <;> omega
theorem win_mono {st m high' high : Int} {l : List S90} (hle : high' ≤ high) : uWin st l m high' ≤ uWin st l m high := by
 unfold uWin
 generalize uProd l m (if st = 0 then 739 else 512) = x
 generalize uProd l m 256 = y
 split
 ·omega
 ·split
  ·omega
  ·split <;> split <;> omega
theorem prodC (p0 p2 p3 p4 p5 p6 p7 p8 p9 x : Int) (A : Option Addr) (k : Nat) (l : List S90) (hl : SWf l) (hm : W64 p2) (hx : W64 x) (w : World) (hr : RB w A l) (hc : l.length ≤ k) :
  Calls Try.prog 54 #[.agg #[.int .i64 p0, .slice A l.length k, .int .u64 p2, .int .u64 p3, .int .u64 p4, .int .u64 p5, .int .u64 p6, .int .u64 p7, .int .u64 p8, .int .u64 p9], .int .u64 x] w fun e w' => e = .returned (.int .u64 (uProd l p2 x)) ∧ Below w.heap.size w w' :=
 probe_Product.calls p0 A k l p2 p3 p4 p5 p6 p7 p8 p9 x _ w hr.out hc (prod_eq hl hm hx)
@[reducible] def G3 (a5 a6 a7 a8 a9 a10 a11 a20 a22 a23 a24 a25 a26 a27 a28 a29 a39 a40 : Int) (l : List S90) : Prop := Mod a20 l a22 a23 a24 a25 a26 a27 a28 a29 ∧ (a5 = 0 ∨ a5 = 1 ∨ a5 = 2) ∧ W64 a6 ∧ W64 a7 ∧ W64 a8 ∧ W64 a9 ∧ W64 a10 ∧ W64 a11 ∧ W64 a39 ∧ W64 a40
@[reducible] def S3 (A : Option Addr) (l : List S90) (R : Int → Int → Prop) (w : World) (e : Ending) (w' : World) : Prop := ∃ (a5 a6 a7 a8 a9 a10 a11 a20 a22 a23 a24 a25 a26 a27 a28 a29 a39 a40 : Int) (A' : Option Addr) (k' : Nat) (l' : List S90), e = .returned (.agg (K3 a5 a6 a7 a8 a9 a10 a11 a20 (.slice A' l'.length k') a22 a23 a24 a25 a26 a27 a28 a29 a39 a40).toArray) ∧ G3 a5 a6 a7 a8 a9 a10 a11 a20 a22 a23 a24 a25 a26 a27 a28 a29 a39 a40 l' ∧ l'.length ≤ l.length + 1 ∧ l'.length ≤ k' ∧ RB w' A' l' ∧ FR w A l A' l' ∧ R (uWin a20 l' a22 a29) a39 ∧ Below w.heap.size w w'
theorem Mod.high {st m mat full still rounds phase since high high' : Int} {l : List S90} (h : Mod st l m mat full still rounds phase since high) (g : 2400 ≤ high' ∧ high' ≤ 16777216) : Mod st l m mat full still rounds phase since high' := ⟨h.s0, h.s1, h.hl, h.hm, h.hmat, h.hf, h.ht, h.hr, h.hp, h.hs, g.1, g.2⟩
theorem Mod.h9 {st m mat full still rounds phase since high : Int} {l : List S90} (h : Mod st l m mat full still rounds phase since high) : W64 high := ⟨by have := h.g0; omega, by have := h.g1; omega⟩
theorem min_in {a b : Int} (ha : 2400 ≤ a ∧ a ≤ 16777216) (hb : 2400 ≤ b ∧ b ≤ 16777216) : 2400 ≤ min a b ∧ min a b ≤ 16777216 := by omega
theorem winP_0 (p0 p2 p3 p4 p5 p6 p7 p8 p9 : Int) (A21 : Option Addr) (k21 : Nat)  (w : World) (l21 : List S90) (hw21 : SWf l21) (hr21 : RB w A21 l21) (hk21 : l21.length ≤ k21) (h0 : (p0 == 3) = true) :
  Calls Try.prog 35 #[.agg #[.int .i64 p0, .slice A21 l21.length k21, .int .u64 p2, .int .u64 p3, .int .u64 p4, .int .u64 p5, .int .u64 p6, .int .u64 p7, .int .u64 p8, .int .u64 p9]] w fun e w' => e = .returned (.int .u64 4800) ∧ Below w.heap.size w w' := by
 have hu32 := Try.underlying32
 have HS := Since.refl w
 go_enter Try.func35, Try.ntmps35
 go_wp2_with (first | (refine seg_new rfl (N := 1) rfl [.int .i64 p0, .slice A21 l21.length k21, .int .u64 p2, .int .u64 p3, .int .u64 p4, .int .u64 p5, .int .u64 p6, .int .u64 p7, .int .u64 p8, .int .u64 p9] 32 ?hr ?_; (case hr => rfl); intro g0 hg w1 hn hl; have GEg0 := ge_new HS hg; clear hg; replace HS := HS.below hl; have Bg0 := hn; clear hl hn; have kg0_0 := Bg0.at 0 rfl))
 all_goals (go_ret; exact ⟨rfl, HS.out⟩)
theorem winP_1 (p0 p2 p3 p4 p5 p6 p7 p8 p9 : Int) (A21 : Option Addr) (k21 : Nat) (Wp2 : W64 p2) (w : World) (l21 : List S90) (hw21 : SWf l21) (hr21 : RB w A21 l21) (hk21 : l21.length ≤ k21) (h0 : (p0 == 3) = false) (h1 : ((uProd l21 p2 256) == 0) = true) :
  Calls Try.prog 35 #[.agg #[.int .i64 p0, .slice A21 l21.length k21, .int .u64 p2, .int .u64 p3, .int .u64 p4, .int .u64 p5, .int .u64 p6, .int .u64 p7, .int .u64 p8, .int .u64 p9]] w fun e w' => e = .returned (.int .u64 12000) ∧ Below w.heap.size w w' := by
 have hu32 := Try.underlying32
 have HS := Since.refl w
 go_enter Try.func35, Try.ntmps35
 go_wp2_with (first | (refine seg_new rfl (N := 1) rfl [.int .i64 p0, .slice A21 l21.length k21, .int .u64 p2, .int .u64 p3, .int .u64 p4, .int .u64 p5, .int .u64 p6, .int .u64 p7, .int .u64 p8, .int .u64 p9] 32 ?hr ?_; (case hr => rfl); intro g0 hg w1 hn hl; have GEg0 := ge_new HS hg; clear hg; replace HS := HS.below hl; have Bg0 := hn; clear hl hn; have kg0_0 := Bg0.at 0 rfl) | (refine seg_load rfl (N := 10) rfl 32 (.tmp 1) rfl g0 0 [.int .i64 p0, .slice A21 l21.length k21, .int .u64 p2, .int .u64 p3, .int .u64 p4, .int .u64 p5, .int .u64 p6, .int .u64 p7, .int .u64 p8, .int .u64 p9] rfl Bg0 rfl Try.underlying32 rfl (by kernel_rfl) ?_) | ((go_at_call 54); (with_reducible refine (prodC p0 p2 p3 p4 p5 p6 p7 p8 p9 256 A21 k21 l21 hw21 Wp2 (by decide) _ (hr21.below HS.out) hk21).mono ?_); rintro e w2 ⟨rfl, hl⟩; replace Bg0 := Bg0.below hl; replace HS := HS.below hl; clear hl; clear kg0_0))
 all_goals (go_ret; exact ⟨rfl, HS.out⟩)
theorem winP_2 (p0 p2 p3 p4 p5 p6 p7 p8 p9 : Int) (A21 : Option Addr) (k21 : Nat) (Wp2 : W64 p2) (w : World) (l21 : List S90) (hw21 : SWf l21) (hr21 : RB w A21 l21) (hk21 : l21.length ≤ k21) (h0 : (p0 == 3) = false) (h1 : ((uProd l21 p2 256) == 0) = false) (h2 : (p0 == 0) = true) (h3 : (decide (4800 ≤ p9)) = true) :
  Calls Try.prog 35 #[.agg #[.int .i64 p0, .slice A21 l21.length k21, .int .u64 p2, .int .u64 p3, .int .u64 p4, .int .u64 p5, .int .u64 p6, .int .u64 p7, .int .u64 p8, .int .u64 p9]] w fun e w' => e = .returned (.int .u64 (max (min (uHeld (uProd l21 p2 739)) p9) 4800)) ∧ Below w.heap.size w w' := by
 have hu32 := Try.underlying32
 have HS := Since.refl w
 go_enter Try.func35, Try.ntmps35
 go_wp2_with (first | (refine seg_new rfl (N := 1) rfl [.int .i64 p0, .slice A21 l21.length k21, .int .u64 p2, .int .u64 p3, .int .u64 p4, .int .u64 p5, .int .u64 p6, .int .u64 p7, .int .u64 p8, .int .u64 p9] 32 ?hr ?_; (case hr => rfl); intro g0 hg w1 hn hl; have GEg0 := ge_new HS hg; clear hg; replace HS := HS.below hl; have Bg0 := hn; clear hl hn; have kg0_0 := Bg0.at 0 rfl) | (refine seg_load rfl (N := 10) rfl 32 (.tmp 1) rfl g0 0 [.int .i64 p0, .slice A21 l21.length k21, .int .u64 p2, .int .u64 p3, .int .u64 p4, .int .u64 p5, .int .u64 p6, .int .u64 p7, .int .u64 p8, .int .u64 p9] rfl Bg0 rfl Try.underlying32 rfl (by kernel_rfl) ?_) | ((go_at_call 54); (with_reducible refine (prodC p0 p2 p3 p4 p5 p6 p7 p8 p9 256 A21 k21 l21 hw21 Wp2 (by decide) _ (hr21.below HS.out) hk21).mono ?_); rintro e w2 ⟨rfl, hl⟩; replace Bg0 := Bg0.below hl; replace HS := HS.below hl; clear hl; replace kg0_0 := Bg0.at 0 rfl; have kg0_9 := Bg0.at 9 rfl))
 refine start_ (n := 8) (S := fun w' => Blk w' g0 32 [.int .i64 p0, .slice A21 l21.length k21, .int .u64 p2, .int .u64 p3, .int .u64 p4, .int .u64 p5, .int .u64 p6, .int .u64 p7, .int .u64 p8, .int .u64 p9] ∧ w'.cell? ⟨g0, 9, none⟩ = some (.int .u64 p9)) (ds := []) (bs 8 0) (by kernel_rfl) rfl rfl ⟨Bg0.drew, ((Bg0.drew.cell 9).trans rfl)⟩ (fun hHeld => ?_)
 generalize hWd : World.drew w2 = w3 at hHeld ⊢
 have hl : Below w2.heap.size w2 w3 := (by rw [← hWd]; exact below_drew1 (Below.refl _ _))
 clear hWd
 replace Bg0 := Bg0.below hl; replace HS := HS.below hl; clear hl; replace kg0_0 := Bg0.at 0 rfl; replace kg0_9 := Bg0.at 9 rfl
 refine pu 1 18 (.int .u64 739) 2 rfl rfl (by kernel_rfl) (fun _ _ _ h => h) (by rfl) (fun _ => by kernel_rfl) rfl ?_
 refine pu 4 21 (.pointer (some ⟨g0, 9, none⟩)) 18 rfl rfl (by kernel_rfl) (fun _ _ _ h => h) (by rfl) (fun _ => by kernel_rfl) rfl ?_
 refine norm_ (a' := ?_) ?_ ?_
 rotate_left
 ·simp only [Act.put, zA_, z0_, z1_, i64_w, i32_w]
  rfl
 refine take_ (i := 0) (N := some 17) (v := .agg #[.int .i64 p0, .slice A21 l21.length k21, .int .u64 p2, .int .u64 p3, .int .u64 p4, .int .u64 p5, .int .u64 p6, .int .u64 p7, .int .u64 p8, .int .u64 p9]) (a' := ?_) (bs 8 19) rfl rfl (by kernel_rfl) (fun _ _ _ h => h) (Or.inl ⟨by rfl, ?_⟩) hHeld ?_ ?_
 ·rintro w' ⟨s0, s1⟩
  exact exec_seg_load 32 (.tmp 1) (by rfl) g0 0 [.int .i64 p0, .slice A21 l21.length k21, .int .u64 p2, .int .u64 p3, .int .u64 p4, .int .u64 p5, .int .u64 p6, .int .u64 p7, .int .u64 p8, .int .u64 p9] (by rfl) s0 (by rfl) Try.underlying32 (by rfl) (by kernel_rfl)
 rotate_left
 ·simp only [Act.put, zA_, z0_, z1_, i64_w, i32_w]
  rfl
 refine take_ (i := 5) (N := some 22) (v := ?_) (a' := ?_) (bs 8 51) rfl rfl (by kernel_rfl) (fun _ _ _ h => h) (Or.inl ⟨by rfl, ?_⟩) hHeld ?_ ?_
 rotate_left
 ·rintro w' ⟨s0, s1⟩
  go_simp
  with_reducible rfl
 rotate_left
 ·simp only [Act.put, zA_, z0_, z1_, i64_w, i32_w]
  rfl
 refine one_ (i := 2) (N := some 19) (bs 8 55) rfl rfl (by kernel_rfl) (by decide) (fun K hK => ?_)
 refine goes_ Try.func54 (by kernel_rfl) rfl #[.agg #[.int .i64 p0, .slice A21 l21.length k21, .int .u64 p2, .int .u64 p3, .int .u64 p4, .int .u64 p5, .int .u64 p6, .int .u64 p7, .int .u64 p8, .int .u64 p9], .int .u64 739] (by rfl) rfl rfl (by simp only [List.map_toArray, List.map_cons, List.map_nil]; rfl) ?_
 with_reducible refine (prodC p0 p2 p3 p4 p5 p6 p7 p8 p9 739 A21 k21 l21 hw21 Wp2 (by decide) _ (hr21.below HS.out) hk21).mono ?_
 rintro e w4 ⟨rfl, hl⟩
 refine ⟨_, rfl, ?_⟩
 replace Bg0 := Bg0.below hl; replace HS := HS.below hl; clear hl; replace kg0_0 := Bg0.at 0 rfl; replace kg0_9 := Bg0.at 9 rfl
 refine hK.out _ _ ⟨Bg0, ((Bg0.cell 9).trans rfl)⟩ (fun hHeld => ?_)
 clear hK K
 refine norm_ (a' := ?_) ?_ ?_
 rotate_left
 ·show Act.put _ (some 19) _ = _
  simp only [Act.put, zA_, z0_, z1_, i64_w, i32_w]
  rfl
 refine one_ (i := 3) (N := some 20) (bs 8 63) rfl rfl (by kernel_rfl) (by decide) (fun K hK => ?_)
 refine goes_ Try.func24 (by kernel_rfl) rfl #[.int .u64 (uProd l21 p2 739)] (by rfl) rfl rfl (by simp only [List.map_toArray, List.map_cons, List.map_nil]; rfl) ?_
 with_reducible refine (reno_Held.C (uProd l21 p2 739) _).mono ?_
 rintro e w5 ⟨rfl, hd⟩
 refine ⟨_, rfl, ?_⟩
 have hl := hd.below
 clear hd
 replace Bg0 := Bg0.below hl; replace HS := HS.below hl; clear hl; replace kg0_0 := Bg0.at 0 rfl; replace kg0_9 := Bg0.at 9 rfl
 refine hK.out _ _ ⟨Bg0, ((Bg0.cell 9).trans rfl)⟩ (fun hHeld => ?_)
 clear hK K
 refine norm_ (a' := ?_) ?_ ?_
 rotate_left
 ·show Act.put _ (some 20) _ = _
  simp only [Act.put, zA_, z0_, z1_, i64_w, i32_w]
  rfl
 refine pure_ (i := 6) (N := some 23) (v := ?_) (a' := ?_) (bs 8 127) rfl rfl (by kernel_rfl) (fun _ _ _ h => h) (Or.inl ⟨by rfl, ?_⟩) ?_ ?_
 rotate_left
 ·intro w'
  go_simp
  with_reducible rfl
 rotate_left
 ·simp only [Act.put, zA_, z0_, z1_, i64_w, i32_w]
  rfl
 refine pure_ (i := 7) (N := some 4) (v := ?_) (a' := ?_) (bs 8 255) rfl rfl (by kernel_rfl) (fun _ _ _ h => h) (Or.inl ⟨by rfl, ?_⟩) ?_ ?_
 rotate_left
 ·intro w'
  go_simp
  with_reducible rfl
 rotate_left
 ·simp only [Act.put, zA_, z0_, z1_, i64_w, i32_w]
  rfl
 refine done_ (by kernel_rfl) ?_
 clear kg0_0; replace kg0_9 := Bg0.at 9 rfl
 go_wp2
 all_goals (go_ret; exact ⟨rfl, HS.out⟩)
theorem winP_3 (p0 p2 p3 p4 p5 p6 p7 p8 p9 : Int) (A21 : Option Addr) (k21 : Nat) (Wp2 : W64 p2) (w : World) (l21 : List S90) (hw21 : SWf l21) (hr21 : RB w A21 l21) (hk21 : l21.length ≤ k21) (h0 : (p0 == 3) = false) (h1 : ((uProd l21 p2 256) == 0) = false) (h2 : (p0 == 0) = true) (h3 : (decide (4800 ≤ p9)) = false) :
  Calls Try.prog 35 #[.agg #[.int .i64 p0, .slice A21 l21.length k21, .int .u64 p2, .int .u64 p3, .int .u64 p4, .int .u64 p5, .int .u64 p6, .int .u64 p7, .int .u64 p8, .int .u64 p9]] w fun e w' => e = .returned (.int .u64 (min (uHeld (uProd l21 p2 739)) p9)) ∧ Below w.heap.size w w' := by
 have hu32 := Try.underlying32
 have HS := Since.refl w
 go_enter Try.func35, Try.ntmps35
 go_wp2_with (first | (refine seg_new rfl (N := 1) rfl [.int .i64 p0, .slice A21 l21.length k21, .int .u64 p2, .int .u64 p3, .int .u64 p4, .int .u64 p5, .int .u64 p6, .int .u64 p7, .int .u64 p8, .int .u64 p9] 32 ?hr ?_; (case hr => rfl); intro g0 hg w1 hn hl; have GEg0 := ge_new HS hg; clear hg; replace HS := HS.below hl; have Bg0 := hn; clear hl hn; have kg0_0 := Bg0.at 0 rfl) | (refine seg_load rfl (N := 10) rfl 32 (.tmp 1) rfl g0 0 [.int .i64 p0, .slice A21 l21.length k21, .int .u64 p2, .int .u64 p3, .int .u64 p4, .int .u64 p5, .int .u64 p6, .int .u64 p7, .int .u64 p8, .int .u64 p9] rfl Bg0 rfl Try.underlying32 rfl (by kernel_rfl) ?_) | ((go_at_call 54); (with_reducible refine (prodC p0 p2 p3 p4 p5 p6 p7 p8 p9 256 A21 k21 l21 hw21 Wp2 (by decide) _ (hr21.below HS.out) hk21).mono ?_); rintro e w2 ⟨rfl, hl⟩; replace Bg0 := Bg0.below hl; replace HS := HS.below hl; clear hl; replace kg0_0 := Bg0.at 0 rfl; have kg0_9 := Bg0.at 9 rfl))
 refine start_ (n := 8) (S := fun w' => Blk w' g0 32 [.int .i64 p0, .slice A21 l21.length k21, .int .u64 p2, .int .u64 p3, .int .u64 p4, .int .u64 p5, .int .u64 p6, .int .u64 p7, .int .u64 p8, .int .u64 p9] ∧ w'.cell? ⟨g0, 9, none⟩ = some (.int .u64 p9)) (ds := []) (bs 8 0) (by kernel_rfl) rfl rfl ⟨Bg0.drew, ((Bg0.drew.cell 9).trans rfl)⟩ (fun hHeld => ?_)
 generalize hWd : World.drew w2 = w3 at hHeld ⊢
 have hl : Below w2.heap.size w2 w3 := (by rw [← hWd]; exact below_drew1 (Below.refl _ _))
 clear hWd
 replace Bg0 := Bg0.below hl; replace HS := HS.below hl; clear hl; replace kg0_0 := Bg0.at 0 rfl; replace kg0_9 := Bg0.at 9 rfl
 refine pu 1 18 (.int .u64 739) 2 rfl rfl (by kernel_rfl) (fun _ _ _ h => h) (by rfl) (fun _ => by kernel_rfl) rfl ?_
 refine pu 4 21 (.pointer (some ⟨g0, 9, none⟩)) 18 rfl rfl (by kernel_rfl) (fun _ _ _ h => h) (by rfl) (fun _ => by kernel_rfl) rfl ?_
 refine norm_ (a' := ?_) ?_ ?_
 rotate_left
 ·simp only [Act.put, zA_, z0_, z1_, i64_w, i32_w]
  rfl
 refine take_ (i := 0) (N := some 17) (v := .agg #[.int .i64 p0, .slice A21 l21.length k21, .int .u64 p2, .int .u64 p3, .int .u64 p4, .int .u64 p5, .int .u64 p6, .int .u64 p7, .int .u64 p8, .int .u64 p9]) (a' := ?_) (bs 8 19) rfl rfl (by kernel_rfl) (fun _ _ _ h => h) (Or.inl ⟨by rfl, ?_⟩) hHeld ?_ ?_
 ·rintro w' ⟨s0, s1⟩
  exact exec_seg_load 32 (.tmp 1) (by rfl) g0 0 [.int .i64 p0, .slice A21 l21.length k21, .int .u64 p2, .int .u64 p3, .int .u64 p4, .int .u64 p5, .int .u64 p6, .int .u64 p7, .int .u64 p8, .int .u64 p9] (by rfl) s0 (by rfl) Try.underlying32 (by rfl) (by kernel_rfl)
 rotate_left
 ·simp only [Act.put, zA_, z0_, z1_, i64_w, i32_w]
  rfl
 refine take_ (i := 5) (N := some 22) (v := ?_) (a' := ?_) (bs 8 51) rfl rfl (by kernel_rfl) (fun _ _ _ h => h) (Or.inl ⟨by rfl, ?_⟩) hHeld ?_ ?_
 rotate_left
 ·rintro w' ⟨s0, s1⟩
  go_simp
  with_reducible rfl
 rotate_left
 ·simp only [Act.put, zA_, z0_, z1_, i64_w, i32_w]
  rfl
 refine one_ (i := 2) (N := some 19) (bs 8 55) rfl rfl (by kernel_rfl) (by decide) (fun K hK => ?_)
 refine goes_ Try.func54 (by kernel_rfl) rfl #[.agg #[.int .i64 p0, .slice A21 l21.length k21, .int .u64 p2, .int .u64 p3, .int .u64 p4, .int .u64 p5, .int .u64 p6, .int .u64 p7, .int .u64 p8, .int .u64 p9], .int .u64 739] (by rfl) rfl rfl (by simp only [List.map_toArray, List.map_cons, List.map_nil]; rfl) ?_
 with_reducible refine (prodC p0 p2 p3 p4 p5 p6 p7 p8 p9 739 A21 k21 l21 hw21 Wp2 (by decide) _ (hr21.below HS.out) hk21).mono ?_
 rintro e w4 ⟨rfl, hl⟩
 refine ⟨_, rfl, ?_⟩
 replace Bg0 := Bg0.below hl; replace HS := HS.below hl; clear hl; replace kg0_0 := Bg0.at 0 rfl; replace kg0_9 := Bg0.at 9 rfl
 refine hK.out _ _ ⟨Bg0, ((Bg0.cell 9).trans rfl)⟩ (fun hHeld => ?_)
 clear hK K
 refine norm_ (a' := ?_) ?_ ?_
 rotate_left
 ·show Act.put _ (some 19) _ = _
  simp only [Act.put, zA_, z0_, z1_, i64_w, i32_w]
  rfl
 refine one_ (i := 3) (N := some 20) (bs 8 63) rfl rfl (by kernel_rfl) (by decide) (fun K hK => ?_)
 refine goes_ Try.func24 (by kernel_rfl) rfl #[.int .u64 (uProd l21 p2 739)] (by rfl) rfl rfl (by simp only [List.map_toArray, List.map_cons, List.map_nil]; rfl) ?_
 with_reducible refine (reno_Held.C (uProd l21 p2 739) _).mono ?_
 rintro e w5 ⟨rfl, hd⟩
 refine ⟨_, rfl, ?_⟩
 have hl := hd.below
 clear hd
 replace Bg0 := Bg0.below hl; replace HS := HS.below hl; clear hl; replace kg0_0 := Bg0.at 0 rfl; replace kg0_9 := Bg0.at 9 rfl
 refine hK.out _ _ ⟨Bg0, ((Bg0.cell 9).trans rfl)⟩ (fun hHeld => ?_)
 clear hK K
 refine norm_ (a' := ?_) ?_ ?_
 rotate_left
 ·show Act.put _ (some 20) _ = _
  simp only [Act.put, zA_, z0_, z1_, i64_w, i32_w]
  rfl
 refine pure_ (i := 6) (N := some 23) (v := ?_) (a' := ?_) (bs 8 127) rfl rfl (by kernel_rfl) (fun _ _ _ h => h) (Or.inl ⟨by rfl, ?_⟩) ?_ ?_
 rotate_left
 ·intro w'
  go_simp
  with_reducible rfl
 rotate_left
 ·simp only [Act.put, zA_, z0_, z1_, i64_w, i32_w]
  rfl
 refine pure_ (i := 7) (N := some 4) (v := ?_) (a' := ?_) (bs 8 255) rfl rfl (by kernel_rfl) (fun _ _ _ h => h) (Or.inl ⟨by rfl, ?_⟩) ?_ ?_
 rotate_left
 ·intro w'
  go_simp
  with_reducible rfl
 rotate_left
 ·simp only [Act.put, zA_, z0_, z1_, i64_w, i32_w]
  rfl
 refine done_ (by kernel_rfl) ?_
 clear kg0_0; replace kg0_9 := Bg0.at 9 rfl
 go_wp2
 all_goals (go_ret; exact ⟨rfl, HS.out⟩)
theorem winP_4 (p0 p2 p3 p4 p5 p6 p7 p8 p9 : Int) (A21 : Option Addr) (k21 : Nat) (Wp2 : W64 p2) (w : World) (l21 : List S90) (hw21 : SWf l21) (hr21 : RB w A21 l21) (hk21 : l21.length ≤ k21) (h0 : (p0 == 3) = false) (h1 : ((uProd l21 p2 256) == 0) = false) (h2 : (p0 == 0) = false) (h3 : (decide (4800 ≤ p9)) = true) :
  Calls Try.prog 35 #[.agg #[.int .i64 p0, .slice A21 l21.length k21, .int .u64 p2, .int .u64 p3, .int .u64 p4, .int .u64 p5, .int .u64 p6, .int .u64 p7, .int .u64 p8, .int .u64 p9]] w fun e w' => e = .returned (.int .u64 (max (min (uHeld (uProd l21 p2 512)) p9) 4800)) ∧ Below w.heap.size w w' := by
 have hu32 := Try.underlying32
 have HS := Since.refl w
 go_enter Try.func35, Try.ntmps35
 go_wp2_with (first | (refine seg_new rfl (N := 1) rfl [.int .i64 p0, .slice A21 l21.length k21, .int .u64 p2, .int .u64 p3, .int .u64 p4, .int .u64 p5, .int .u64 p6, .int .u64 p7, .int .u64 p8, .int .u64 p9] 32 ?hr ?_; (case hr => rfl); intro g0 hg w1 hn hl; have GEg0 := ge_new HS hg; clear hg; replace HS := HS.below hl; have Bg0 := hn; clear hl hn; have kg0_0 := Bg0.at 0 rfl) | (refine seg_load rfl (N := 10) rfl 32 (.tmp 1) rfl g0 0 [.int .i64 p0, .slice A21 l21.length k21, .int .u64 p2, .int .u64 p3, .int .u64 p4, .int .u64 p5, .int .u64 p6, .int .u64 p7, .int .u64 p8, .int .u64 p9] rfl Bg0 rfl Try.underlying32 rfl (by kernel_rfl) ?_) | ((go_at_call 54); (with_reducible refine (prodC p0 p2 p3 p4 p5 p6 p7 p8 p9 256 A21 k21 l21 hw21 Wp2 (by decide) _ (hr21.below HS.out) hk21).mono ?_); rintro e w2 ⟨rfl, hl⟩; replace Bg0 := Bg0.below hl; replace HS := HS.below hl; clear hl; replace kg0_0 := Bg0.at 0 rfl; have kg0_9 := Bg0.at 9 rfl))
 refine start_ (n := 8) (S := fun w' => Blk w' g0 32 [.int .i64 p0, .slice A21 l21.length k21, .int .u64 p2, .int .u64 p3, .int .u64 p4, .int .u64 p5, .int .u64 p6, .int .u64 p7, .int .u64 p8, .int .u64 p9] ∧ w'.cell? ⟨g0, 9, none⟩ = some (.int .u64 p9)) (ds := []) (bs 8 0) (by kernel_rfl) rfl rfl ⟨Bg0.drew, ((Bg0.drew.cell 9).trans rfl)⟩ (fun hHeld => ?_)
 generalize hWd : World.drew w2 = w3 at hHeld ⊢
 have hl : Below w2.heap.size w2 w3 := (by rw [← hWd]; exact below_drew1 (Below.refl _ _))
 clear hWd
 replace Bg0 := Bg0.below hl; replace HS := HS.below hl; clear hl; replace kg0_0 := Bg0.at 0 rfl; replace kg0_9 := Bg0.at 9 rfl
 refine pu 1 18 (.int .u64 512) 2 rfl rfl (by kernel_rfl) (fun _ _ _ h => h) (by rfl) (fun _ => by kernel_rfl) rfl ?_
 refine pu 4 21 (.pointer (some ⟨g0, 9, none⟩)) 18 rfl rfl (by kernel_rfl) (fun _ _ _ h => h) (by rfl) (fun _ => by kernel_rfl) rfl ?_
 refine norm_ (a' := ?_) ?_ ?_
 rotate_left
 ·simp only [Act.put, zA_, z0_, z1_, i64_w, i32_w]
  rfl
 refine take_ (i := 0) (N := some 17) (v := .agg #[.int .i64 p0, .slice A21 l21.length k21, .int .u64 p2, .int .u64 p3, .int .u64 p4, .int .u64 p5, .int .u64 p6, .int .u64 p7, .int .u64 p8, .int .u64 p9]) (a' := ?_) (bs 8 19) rfl rfl (by kernel_rfl) (fun _ _ _ h => h) (Or.inl ⟨by rfl, ?_⟩) hHeld ?_ ?_
 ·rintro w' ⟨s0, s1⟩
  exact exec_seg_load 32 (.tmp 1) (by rfl) g0 0 [.int .i64 p0, .slice A21 l21.length k21, .int .u64 p2, .int .u64 p3, .int .u64 p4, .int .u64 p5, .int .u64 p6, .int .u64 p7, .int .u64 p8, .int .u64 p9] (by rfl) s0 (by rfl) Try.underlying32 (by rfl) (by kernel_rfl)
 rotate_left
 ·simp only [Act.put, zA_, z0_, z1_, i64_w, i32_w]
  rfl
 refine take_ (i := 5) (N := some 22) (v := ?_) (a' := ?_) (bs 8 51) rfl rfl (by kernel_rfl) (fun _ _ _ h => h) (Or.inl ⟨by rfl, ?_⟩) hHeld ?_ ?_
 rotate_left
 ·rintro w' ⟨s0, s1⟩
  go_simp
  with_reducible rfl
 rotate_left
 ·simp only [Act.put, zA_, z0_, z1_, i64_w, i32_w]
  rfl
 refine one_ (i := 2) (N := some 19) (bs 8 55) rfl rfl (by kernel_rfl) (by decide) (fun K hK => ?_)
 refine goes_ Try.func54 (by kernel_rfl) rfl #[.agg #[.int .i64 p0, .slice A21 l21.length k21, .int .u64 p2, .int .u64 p3, .int .u64 p4, .int .u64 p5, .int .u64 p6, .int .u64 p7, .int .u64 p8, .int .u64 p9], .int .u64 512] (by rfl) rfl rfl (by simp only [List.map_toArray, List.map_cons, List.map_nil]; rfl) ?_
 with_reducible refine (prodC p0 p2 p3 p4 p5 p6 p7 p8 p9 512 A21 k21 l21 hw21 Wp2 (by decide) _ (hr21.below HS.out) hk21).mono ?_
 rintro e w4 ⟨rfl, hl⟩
 refine ⟨_, rfl, ?_⟩
 replace Bg0 := Bg0.below hl; replace HS := HS.below hl; clear hl; replace kg0_0 := Bg0.at 0 rfl; replace kg0_9 := Bg0.at 9 rfl
 refine hK.out _ _ ⟨Bg0, ((Bg0.cell 9).trans rfl)⟩ (fun hHeld => ?_)
 clear hK K
 refine norm_ (a' := ?_) ?_ ?_
 rotate_left
 ·show Act.put _ (some 19) _ = _
  simp only [Act.put, zA_, z0_, z1_, i64_w, i32_w]
  rfl
 refine one_ (i := 3) (N := some 20) (bs 8 63) rfl rfl (by kernel_rfl) (by decide) (fun K hK => ?_)
 refine goes_ Try.func24 (by kernel_rfl) rfl #[.int .u64 (uProd l21 p2 512)] (by rfl) rfl rfl (by simp only [List.map_toArray, List.map_cons, List.map_nil]; rfl) ?_
 with_reducible refine (reno_Held.C (uProd l21 p2 512) _).mono ?_
 rintro e w5 ⟨rfl, hd⟩
 refine ⟨_, rfl, ?_⟩
 have hl := hd.below
 clear hd
 replace Bg0 := Bg0.below hl; replace HS := HS.below hl; clear hl; replace kg0_0 := Bg0.at 0 rfl; replace kg0_9 := Bg0.at 9 rfl
 refine hK.out _ _ ⟨Bg0, ((Bg0.cell 9).trans rfl)⟩ (fun hHeld => ?_)
 clear hK K
 refine norm_ (a' := ?_) ?_ ?_
 rotate_left
 ·show Act.put _ (some 20) _ = _
  simp only [Act.put, zA_, z0_, z1_, i64_w, i32_w]
  rfl
 refine pure_ (i := 6) (N := some 23) (v := ?_) (a' := ?_) (bs 8 127) rfl rfl (by kernel_rfl) (fun _ _ _ h => h) (Or.inl ⟨by rfl, ?_⟩) ?_ ?_
 rotate_left
 ·intro w'
  go_simp
  with_reducible rfl
 rotate_left
 ·simp only [Act.put, zA_, z0_, z1_, i64_w, i32_w]
  rfl
 refine pure_ (i := 7) (N := some 4) (v := ?_) (a' := ?_) (bs 8 255) rfl rfl (by kernel_rfl) (fun _ _ _ h => h) (Or.inl ⟨by rfl, ?_⟩) ?_ ?_
 rotate_left
 ·intro w'
  go_simp
  with_reducible rfl
 rotate_left
 ·simp only [Act.put, zA_, z0_, z1_, i64_w, i32_w]
  rfl
 refine done_ (by kernel_rfl) ?_
 clear kg0_0; replace kg0_9 := Bg0.at 9 rfl
 go_wp2
 all_goals (go_ret; exact ⟨rfl, HS.out⟩)
theorem winP_5 (p0 p2 p3 p4 p5 p6 p7 p8 p9 : Int) (A21 : Option Addr) (k21 : Nat) (Wp2 : W64 p2) (w : World) (l21 : List S90) (hw21 : SWf l21) (hr21 : RB w A21 l21) (hk21 : l21.length ≤ k21) (h0 : (p0 == 3) = false) (h1 : ((uProd l21 p2 256) == 0) = false) (h2 : (p0 == 0) = false) (h3 : (decide (4800 ≤ p9)) = false) :
  Calls Try.prog 35 #[.agg #[.int .i64 p0, .slice A21 l21.length k21, .int .u64 p2, .int .u64 p3, .int .u64 p4, .int .u64 p5, .int .u64 p6, .int .u64 p7, .int .u64 p8, .int .u64 p9]] w fun e w' => e = .returned (.int .u64 (min (uHeld (uProd l21 p2 512)) p9)) ∧ Below w.heap.size w w' := by
 have hu32 := Try.underlying32
 have HS := Since.refl w
 go_enter Try.func35, Try.ntmps35
 go_wp2_with (first | (refine seg_new rfl (N := 1) rfl [.int .i64 p0, .slice A21 l21.length k21, .int .u64 p2, .int .u64 p3, .int .u64 p4, .int .u64 p5, .int .u64 p6, .int .u64 p7, .int .u64 p8, .int .u64 p9] 32 ?hr ?_; (case hr => rfl); intro g0 hg w1 hn hl; have GEg0 := ge_new HS hg; clear hg; replace HS := HS.below hl; have Bg0 := hn; clear hl hn; have kg0_0 := Bg0.at 0 rfl) | (refine seg_load rfl (N := 10) rfl 32 (.tmp 1) rfl g0 0 [.int .i64 p0, .slice A21 l21.length k21, .int .u64 p2, .int .u64 p3, .int .u64 p4, .int .u64 p5, .int .u64 p6, .int .u64 p7, .int .u64 p8, .int .u64 p9] rfl Bg0 rfl Try.underlying32 rfl (by kernel_rfl) ?_) | ((go_at_call 54); (with_reducible refine (prodC p0 p2 p3 p4 p5 p6 p7 p8 p9 256 A21 k21 l21 hw21 Wp2 (by decide) _ (hr21.below HS.out) hk21).mono ?_); rintro e w2 ⟨rfl, hl⟩; replace Bg0 := Bg0.below hl; replace HS := HS.below hl; clear hl; replace kg0_0 := Bg0.at 0 rfl; have kg0_9 := Bg0.at 9 rfl))
 refine start_ (n := 8) (S := fun w' => Blk w' g0 32 [.int .i64 p0, .slice A21 l21.length k21, .int .u64 p2, .int .u64 p3, .int .u64 p4, .int .u64 p5, .int .u64 p6, .int .u64 p7, .int .u64 p8, .int .u64 p9] ∧ w'.cell? ⟨g0, 9, none⟩ = some (.int .u64 p9)) (ds := []) (bs 8 0) (by kernel_rfl) rfl rfl ⟨Bg0.drew, ((Bg0.drew.cell 9).trans rfl)⟩ (fun hHeld => ?_)
 generalize hWd : World.drew w2 = w3 at hHeld ⊢
 have hl : Below w2.heap.size w2 w3 := (by rw [← hWd]; exact below_drew1 (Below.refl _ _))
 clear hWd
 replace Bg0 := Bg0.below hl; replace HS := HS.below hl; clear hl; replace kg0_0 := Bg0.at 0 rfl; replace kg0_9 := Bg0.at 9 rfl
 refine pu 1 18 (.int .u64 512) 2 rfl rfl (by kernel_rfl) (fun _ _ _ h => h) (by rfl) (fun _ => by kernel_rfl) rfl ?_
 refine pu 4 21 (.pointer (some ⟨g0, 9, none⟩)) 18 rfl rfl (by kernel_rfl) (fun _ _ _ h => h) (by rfl) (fun _ => by kernel_rfl) rfl ?_
 refine norm_ (a' := ?_) ?_ ?_
 rotate_left
 ·simp only [Act.put, zA_, z0_, z1_, i64_w, i32_w]
  rfl
 refine take_ (i := 0) (N := some 17) (v := .agg #[.int .i64 p0, .slice A21 l21.length k21, .int .u64 p2, .int .u64 p3, .int .u64 p4, .int .u64 p5, .int .u64 p6, .int .u64 p7, .int .u64 p8, .int .u64 p9]) (a' := ?_) (bs 8 19) rfl rfl (by kernel_rfl) (fun _ _ _ h => h) (Or.inl ⟨by rfl, ?_⟩) hHeld ?_ ?_
 ·rintro w' ⟨s0, s1⟩
  exact exec_seg_load 32 (.tmp 1) (by rfl) g0 0 [.int .i64 p0, .slice A21 l21.length k21, .int .u64 p2, .int .u64 p3, .int .u64 p4, .int .u64 p5, .int .u64 p6, .int .u64 p7, .int .u64 p8, .int .u64 p9] (by rfl) s0 (by rfl) Try.underlying32 (by rfl) (by kernel_rfl)
 rotate_left
 ·simp only [Act.put, zA_, z0_, z1_, i64_w, i32_w]
  rfl
 refine take_ (i := 5) (N := some 22) (v := ?_) (a' := ?_) (bs 8 51) rfl rfl (by kernel_rfl) (fun _ _ _ h => h) (Or.inl ⟨by rfl, ?_⟩) hHeld ?_ ?_
 rotate_left
 ·rintro w' ⟨s0, s1⟩
  go_simp
  with_reducible rfl
 rotate_left
 ·simp only [Act.put, zA_, z0_, z1_, i64_w, i32_w]
  rfl
 refine one_ (i := 2) (N := some 19) (bs 8 55) rfl rfl (by kernel_rfl) (by decide) (fun K hK => ?_)
 refine goes_ Try.func54 (by kernel_rfl) rfl #[.agg #[.int .i64 p0, .slice A21 l21.length k21, .int .u64 p2, .int .u64 p3, .int .u64 p4, .int .u64 p5, .int .u64 p6, .int .u64 p7, .int .u64 p8, .int .u64 p9], .int .u64 512] (by rfl) rfl rfl (by simp only [List.map_toArray, List.map_cons, List.map_nil]; rfl) ?_
 with_reducible refine (prodC p0 p2 p3 p4 p5 p6 p7 p8 p9 512 A21 k21 l21 hw21 Wp2 (by decide) _ (hr21.below HS.out) hk21).mono ?_
 rintro e w4 ⟨rfl, hl⟩
 refine ⟨_, rfl, ?_⟩
 replace Bg0 := Bg0.below hl; replace HS := HS.below hl; clear hl; replace kg0_0 := Bg0.at 0 rfl; replace kg0_9 := Bg0.at 9 rfl
 refine hK.out _ _ ⟨Bg0, ((Bg0.cell 9).trans rfl)⟩ (fun hHeld => ?_)
 clear hK K
 refine norm_ (a' := ?_) ?_ ?_
 rotate_left
 ·show Act.put _ (some 19) _ = _
  simp only [Act.put, zA_, z0_, z1_, i64_w, i32_w]
  rfl
 refine one_ (i := 3) (N := some 20) (bs 8 63) rfl rfl (by kernel_rfl) (by decide) (fun K hK => ?_)
 refine goes_ Try.func24 (by kernel_rfl) rfl #[.int .u64 (uProd l21 p2 512)] (by rfl) rfl rfl (by simp only [List.map_toArray, List.map_cons, List.map_nil]; rfl) ?_
 with_reducible refine (reno_Held.C (uProd l21 p2 512) _).mono ?_
 rintro e w5 ⟨rfl, hd⟩
 refine ⟨_, rfl, ?_⟩
 have hl := hd.below
 clear hd
 replace Bg0 := Bg0.below hl; replace HS := HS.below hl; clear hl; replace kg0_0 := Bg0.at 0 rfl; replace kg0_9 := Bg0.at 9 rfl
 refine hK.out _ _ ⟨Bg0, ((Bg0.cell 9).trans rfl)⟩ (fun hHeld => ?_)
 clear hK K
 refine norm_ (a' := ?_) ?_ ?_
 rotate_left
 ·show Act.put _ (some 20) _ = _
  simp only [Act.put, zA_, z0_, z1_, i64_w, i32_w]
  rfl
 refine pure_ (i := 6) (N := some 23) (v := ?_) (a' := ?_) (bs 8 127) rfl rfl (by kernel_rfl) (fun _ _ _ h => h) (Or.inl ⟨by rfl, ?_⟩) ?_ ?_
 rotate_left
 ·intro w'
  go_simp
  with_reducible rfl
 rotate_left
 ·simp only [Act.put, zA_, z0_, z1_, i64_w, i32_w]
  rfl
 refine pure_ (i := 7) (N := some 4) (v := ?_) (a' := ?_) (bs 8 255) rfl rfl (by kernel_rfl) (fun _ _ _ h => h) (Or.inl ⟨by rfl, ?_⟩) ?_ ?_
 rotate_left
 ·intro w'
  go_simp
  with_reducible rfl
 rotate_left
 ·simp only [Act.put, zA_, z0_, z1_, i64_w, i32_w]
  rfl
 refine done_ (by kernel_rfl) ?_
 clear kg0_0; replace kg0_9 := Bg0.at 9 rfl
 go_wp2
 all_goals (go_ret; exact ⟨rfl, HS.out⟩)
theorem ltf {a b : Int} (h : a ≤ b) : decide (b < a) = false := decide_eq_false (by omega)
theorem windowP (p0 p2 p3 p4 p5 p6 p7 p8 p9 : Int) (A21 : Option Addr) (k21 : Nat) (l21 : List S90) (W2 : W64 p2) (W9 : W64 p9) (hw21 : SWf l21) (w : World) (hr21 : RB w A21 l21) (hk21 : l21.length ≤ k21) :
  Calls Try.prog 35 #[.agg #[.int .i64 p0, .slice A21 l21.length k21, .int .u64 p2, .int .u64 p3, .int .u64 p4, .int .u64 p5, .int .u64 p6, .int .u64 p7, .int .u64 p8, .int .u64 p9]] w fun e w' => e = .returned (.int .u64 (uWin p0 l21 p2 p9)) ∧ Below w.heap.size w w' := by
 by_cases e1 : p0 = 3
 ·have f1 : (p0 == 3) = true := (by simpa using e1)
  refine (winP_0 p0 p2 p3 p4 p5 p6 p7 p8 p9 A21 k21 w l21 hw21 hr21 hk21 f1).mono ?_
  rintro e w' ⟨rfl, hb⟩
  exact ⟨by unfold uWin; simp only [e1, ge_iff_le, if_true, if_false, Bool.false_eq_true, reduceIte] <;> simp, hb⟩
 ·have f1 : (p0 == 3) = false := (by simpa using e1)
  by_cases e2 : (uProd l21 p2 256) = 0
  ·have f2 : ((uProd l21 p2 256) == 0) = true := (by simpa using e2)
   refine (winP_1 p0 p2 p3 p4 p5 p6 p7 p8 p9 A21 k21 W2 w l21 hw21 hr21 hk21 f1 f2).mono ?_
   rintro e w' ⟨rfl, hb⟩
   exact ⟨by unfold uWin; simp only [e1, e2, ge_iff_le, if_true, if_false, Bool.false_eq_true, reduceIte] <;> simp, hb⟩
  ·have f2 : ((uProd l21 p2 256) == 0) = false := (by simpa using e2)
   by_cases e3 : p0 = 0
   ·have f3 : (p0 == 0) = true := (by simpa using e3)
    by_cases e4 : 4800 ≤ p9
    ·have f4 : (decide (4800 ≤ p9)) = true := decide_eq_true e4
     refine (winP_2 p0 p2 p3 p4 p5 p6 p7 p8 p9 A21 k21 W2 w l21 hw21 hr21 hk21 f1 f2 f3 f4).mono ?_
     rintro e w' ⟨rfl, hb⟩
     exact ⟨by unfold uWin; simp only [e1, e2, e3, e4, ge_iff_le, if_true, if_false, Bool.false_eq_true, reduceIte] <;> simp, hb⟩
    ·have f4 : (decide (4800 ≤ p9)) = false := decide_eq_false e4
     refine (winP_3 p0 p2 p3 p4 p5 p6 p7 p8 p9 A21 k21 W2 w l21 hw21 hr21 hk21 f1 f2 f3 f4).mono ?_
     rintro e w' ⟨rfl, hb⟩
     exact ⟨by unfold uWin; simp only [e1, e2, e3, e4, ge_iff_le, if_true, if_false, Bool.false_eq_true, reduceIte] <;> simp, hb⟩
   ·have f3 : (p0 == 0) = false := (by simpa using e3)
    by_cases e5 : 4800 ≤ p9
    ·have f5 : (decide (4800 ≤ p9)) = true := decide_eq_true e5
     refine (winP_4 p0 p2 p3 p4 p5 p6 p7 p8 p9 A21 k21 W2 w l21 hw21 hr21 hk21 f1 f2 f3 f5).mono ?_
     rintro e w' ⟨rfl, hb⟩
     exact ⟨by unfold uWin; simp only [e1, e2, e3, e5, ge_iff_le, if_true, if_false, Bool.false_eq_true, reduceIte] <;> simp, hb⟩
    ·have f5 : (decide (4800 ≤ p9)) = false := decide_eq_false e5
     refine (winP_5 p0 p2 p3 p4 p5 p6 p7 p8 p9 A21 k21 W2 w l21 hw21 hr21 hk21 f1 f2 f3 f5).mono ?_
     rintro e w' ⟨rfl, hb⟩
     exact ⟨by unfold uWin; simp only [e1, e2, e3, e5, ge_iff_le, if_true, if_false, Bool.false_eq_true, reduceIte] <;> simp, hb⟩
theorem windowK3_0 (c5 c6 c7 c8 c9 c10 c11 c20 c22 c23 c24 c25 c26 c27 c28 c29 c39 c40 : Int) (A21 : Option Addr) (k21 : Nat) (l21 : List S90) (hc : G3 c5 c6 c7 c8 c9 c10 c11 c20 c22 c23 c24 c25 c26 c27 c28 c29 c39 c40 l21)  (w : World) (hr21 : RB w A21 l21) (hk21 : l21.length ≤ k21) (hL21 : l21.length < 1000000) :
  Calls Try.prog 15 #[.agg (K3 c5 c6 c7 c8 c9 c10 c11 c20 (.slice A21 l21.length k21) c22 c23 c24 c25 c26 c27 c28 c29 c39 c40).toArray] w fun e w' => e = .returned (.int .u64 (uWin c20 l21 c22 c29)) ∧ Below w.heap.size w w' := by
 have hu32 := Try.underlying32
 have hu36 := Try.underlying36
 obtain ⟨hM_c20, hp_c5, Wc6, Wc7, Wc8, Wc9, Wc10, Wc11, Wc39, Wc40⟩ := hc
 have Wc22 := hM_c20.hm; have Wc23 := hM_c20.hmat; have Wc24 := hM_c20.hf; have Wc25 := hM_c20.ht; have Wc26 := hM_c20.hr; have Wc27 := hM_c20.hp; have Wc28 := hM_c20.hs; have Wc29 := hM_c20.h9
 have HS := Since.refl w
 go_enter Try.func15, Try.ntmps15
 go_wp2_with (first | (refine seg_new rfl (N := 1) rfl (K3 c5 c6 c7 c8 c9 c10 c11 c20 (.slice A21 l21.length k21) c22 c23 c24 c25 c26 c27 c28 c29 c39 c40) 36 ?hr ?_; (case hr => rfl); intro g0 hg w1 hn hl; have GEg0 := ge_new HS hg; clear hg; replace HS := HS.below hl; have Bg0 := hn; clear hl hn; have kg0_0 := Bg0.at 0 rfl) | (refine seg_load rfl (N := 10) rfl 32 (.tmp 9) rfl g0 20 [.int .i64 c20, .slice A21 l21.length k21, .int .u64 c22, .int .u64 c23, .int .u64 c24, .int .u64 c25, .int .u64 c26, .int .u64 c27, .int .u64 c28, .int .u64 c29] rfl Bg0 rfl Try.underlying32 rfl (by kernel_rfl) ?_) | ((go_at_call 35); (with_reducible refine (windowP c20 c22 c23 c24 c25 c26 c27 c28 c29 A21 k21 l21 Wc22 Wc29 hM_c20.hl _ (hr21.below HS.out) hk21).mono ?_); rintro e w2 ⟨rfl, hl⟩; replace Bg0 := Bg0.below hl; replace HS := HS.below hl; clear hl; clear kg0_0))
 all_goals (go_ret; exact ⟨rfl, HS.out⟩)
theorem newK3_0 (now next : Int)  (w : World) :
  Calls Try.prog 14 #[.int .i64 3, .int .u64 now, .int .u64 next] w fun e w' => e = .returned (.tuple #[.agg (K3 0 next 18446744073709551615 18446744073709551615 0 18446744073709551615 0 0 (.slice none 0 0) 18446744073709551615 now 0 0 0 0 now 16777216 0 0).toArray, .int .i64 0]) ∧ Below w.heap.size w w' := by
 have hu32 := Try.underlying32
 have hu36 := Try.underlying36
 have HS := Since.refl w
 go_enter Try.func14, Try.ntmps14
 go_wp2_with (first | (refine seg_new rfl (N := 6) rfl K0 36 ?hr ?_; (case hr => rfl); intro g0 hg w1 hn hl; have GEg0 := ge_new HS hg; clear hg; replace HS := HS.below hl; have Bg0 := hn; clear hl hn) | ((go_at_call 30); (with_reducible refine (slowN_0 next _).mono ?_); rintro e w2 ⟨rfl, hl⟩; replace Bg0 := Bg0.below hl; replace HS := HS.below hl; clear hl) | (refine seg_new rfl (N := 8) rfl K0 36 ?hr ?_; (case hr => rfl); intro g1 hg w3 hn hl; have Ng1_g0 := ne_new Bg0 hg; have GEg1 := ge_new HS hg; clear hg; replace Bg0 := Bg0.below hl; replace HS := HS.below hl; have Bg1 := hn; clear hl hn) | (refine seg_store rfl rfl 36 (.tmp 8) (.tmp 12) rfl g1 0 (K3 0 next 18446744073709551615 18446744073709551615 0 18446744073709551615 0 0 (.slice none 0 0) 0 0 0 0 0 0 0 0 0 0) (K3 0 next 18446744073709551615 18446744073709551615 0 18446744073709551615 0 0 (.slice none 0 0) 0 0 0 0 0 0 0 0 0 0) (.agg (K3 0 next 18446744073709551615 18446744073709551615 0 18446744073709551615 0 0 (.slice none 0 0) 0 0 0 0 0 0 0 0 0 0).toArray) rfl rfl rfl Bg1 (by kernel_rfl) (nle rfl) rfl rfl ?_; intro w4 hn hw; replace Bg0 := Bg0.grown hw Ng1_g0.symm; replace HS := HS.grown hw GEg1; replace Bg1 := hn; clear hw; clear hn) | ((go_at_call 33); (with_reducible refine (probe_new_0 now _).mono ?_); rintro e w5 ⟨rfl, hl⟩; replace Bg0 := Bg0.below hl; replace Bg1 := Bg1.below hl; replace HS := HS.below hl; clear hl) | (refine seg_store rfl rfl 32 (.tmp 27) (.tmp 26) rfl g1 20 [.int .i64 0, .slice none 0 0, .int .u64 18446744073709551615, .int .u64 now, .int .u64 0, .int .u64 0, .int .u64 0, .int .u64 0, .int .u64 now, .int .u64 16777216] (K3 0 next 18446744073709551615 18446744073709551615 0 18446744073709551615 0 0 (.slice none 0 0) 18446744073709551615 now 0 0 0 0 now 16777216 0 0) (.agg #[.int .i64 0, .slice none 0 0, .int .u64 18446744073709551615, .int .u64 now, .int .u64 0, .int .u64 0, .int .u64 0, .int .u64 0, .int .u64 now, .int .u64 16777216]) rfl rfl rfl Bg1 (by kernel_rfl) (nle rfl) rfl rfl ?_; intro w6 hn hw; replace Bg0 := Bg0.grown hw Ng1_g0.symm; replace HS := HS.grown hw GEg1; replace Bg1 := hn; clear hw; clear hn) | (refine seg_load rfl (N := 33) rfl 36 (.tmp 8) rfl g1 0 (K3 0 next 18446744073709551615 18446744073709551615 0 18446744073709551615 0 0 (.slice none 0 0) 18446744073709551615 now 0 0 0 0 now 16777216 0 0) rfl Bg1 rfl Try.underlying36 rfl (by kernel_rfl) ?_) | (refine seg_store rfl rfl 36 (.tmp 6) (.tmp 33) rfl g0 0 (K3 0 next 18446744073709551615 18446744073709551615 0 18446744073709551615 0 0 (.slice none 0 0) 18446744073709551615 now 0 0 0 0 now 16777216 0 0) (K3 0 next 18446744073709551615 18446744073709551615 0 18446744073709551615 0 0 (.slice none 0 0) 18446744073709551615 now 0 0 0 0 now 16777216 0 0) (.agg (K3 0 next 18446744073709551615 18446744073709551615 0 18446744073709551615 0 0 (.slice none 0 0) 18446744073709551615 now 0 0 0 0 now 16777216 0 0).toArray) rfl rfl rfl Bg0 (by kernel_rfl) (nle rfl) rfl rfl ?_; intro w7 hn hw; replace Bg1 := Bg1.grown hw Ng1_g0; replace HS := HS.grown hw GEg0; replace Bg0 := hn; clear hw; clear hn))
 all_goals exact bodyPost_ret (results_cell_tmp rfl _ _ g0 36 (K3 0 next 18446744073709551615 18446744073709551615 0 18446744073709551615 0 0 (.slice none 0 0) 18446744073709551615 now 0 0 0 0 now 16777216 0 0) _ (.int .i64 0) rfl rfl Bg0 Try.underlying36 rfl (by kernel_rfl)) rfl ⟨rfl, HS.out⟩
theorem probeL_0 (p0 p2 p3 p4 p5 p6 p7 p8 p9 fl : Int) (A21 : Option Addr) (n21 k21 : Nat) (Wfl : W64 fl) (w : World) :
  Calls Try.prog 43 #[.agg #[.int .i64 p0, .slice A21 n21 k21, .int .u64 p2, .int .u64 p3, .int .u64 p4, .int .u64 p5, .int .u64 p6, .int .u64 p7, .int .u64 p8, .int .u64 p9], .int .u64 fl] w fun e w' => e = .returned (.agg #[.int .i64 p0, .slice A21 n21 k21, .int .u64 p2, .int .u64 p3, .int .u64 p4, .int .u64 p5, .int .u64 p6, .int .u64 p7, .int .u64 p8, .int .u64 (min p9 (uHeld (uMulDiv fl 7 10)))]) ∧ Below w.heap.size w w' := by
 have hu32 := Try.underlying32
 have HS := Since.refl w
 go_enter Try.func43, Try.ntmps43
 go_wp2_with (first | (refine seg_new rfl (N := 2) rfl [.int .i64 p0, .slice A21 n21 k21, .int .u64 p2, .int .u64 p3, .int .u64 p4, .int .u64 p5, .int .u64 p6, .int .u64 p7, .int .u64 p8, .int .u64 p9] 32 ?hr ?_; (case hr => rfl); intro g0 hg w1 hn hl; have GEg0 := ge_new HS hg; clear hg; replace HS := HS.below hl; have Bg0 := hn; clear hl hn) | (refine seg_new rfl (N := 4) rfl [.int .i64 0, .slice none 0 0, .int .u64 0, .int .u64 0, .int .u64 0, .int .u64 0, .int .u64 0, .int .u64 0, .int .u64 0, .int .u64 0] 32 ?hr ?_; (case hr => rfl); intro g1 hg w2 hn hl; have Ng1_g0 := ne_new Bg0 hg; have GEg1 := ge_new HS hg; clear hg; replace Bg0 := Bg0.below hl; replace HS := HS.below hl; have Bg1 := hn; clear hl hn; have kg0_9 := Bg0.at 9 rfl; have zg0_9 := Bg0.frozen 9))
 refine start_ (n := 8) (S := fun w' => w'.cell? ⟨g0, 9, none⟩ = some (.int .u64 p9)) (ds := [7]) (bs 8 0) (by kernel_rfl) rfl rfl ((Bg0.drew.cell 9).trans rfl) (fun hHeld => ?_)
 generalize hWd : World.drew w2 = w3 at hHeld ⊢
 have hl : Below w2.heap.size w2 w3 := (by rw [← hWd]; exact below_drew1 (Below.refl _ _))
 clear hWd
 replace Bg0 := Bg0.below hl; replace Bg1 := Bg1.below hl; replace HS := HS.below hl; clear hl; replace kg0_9 := Bg0.at 9 rfl; replace zg0_9 := Bg0.frozen 9
 refine pu 0 5 (.pointer (some ⟨g0, 9, none⟩)) 1 rfl rfl (by kernel_rfl) (fun _ _ _ h => h) (by rfl) (fun _ => by kernel_rfl) rfl ?_
 refine pu 2 7 (.int .u64 fl) 5 rfl rfl (by kernel_rfl) (fun _ _ _ h => h) (by rfl) (fun _ => by kernel_rfl) rfl ?_
 refine norm_ (a' := ?_) ?_ ?_
 rotate_left
 ·simp only [Act.put, zA_, z0_, z1_, i64_w, i32_w]
  rfl
 refine take_ (i := 1) (N := some 6) (v := ?_) (a' := ?_) (bs 8 7) rfl rfl (by kernel_rfl) (fun _ _ _ h => h) (Or.inl ⟨by rfl, ?_⟩) hHeld ?_ ?_
 rotate_left
 ·intro w' s0
  go_simp
  with_reducible rfl
 rotate_left
 ·simp only [Act.put, zA_, z0_, z1_, i64_w, i32_w]
  rfl
 refine one_ (i := 3) (N := some 8) (bs 8 15) rfl rfl (by kernel_rfl) (by decide) (fun K hK => ?_)
 refine goes_ Try.func20 (by kernel_rfl) rfl #[.int .u64 fl, .int .u64 7, .int .u64 10] (by rfl) rfl rfl (by simp only [List.map_toArray, List.map_cons, List.map_nil]; rfl) ?_
 with_reducible refine (fix_MulDivT.C fl 7 10 Wfl (by decide) (by decide) _).mono ?_
 rintro e w4 ⟨rfl, hd⟩
 refine ⟨_, rfl, ?_⟩
 have hl := hd.below
 clear hd
 replace Bg0 := Bg0.below hl; replace Bg1 := Bg1.below hl; replace HS := HS.below hl; clear hl; replace kg0_9 := Bg0.at 9 rfl; replace zg0_9 := Bg0.frozen 9
 refine hK.out _ _ ((Bg0.cell 9).trans rfl) (fun hHeld => ?_)
 clear hK K
 refine norm_ (a' := ?_) ?_ ?_
 rotate_left
 ·show Act.put _ (some 8) _ = _
  simp only [Act.put, zA_, z0_, z1_, i64_w, i32_w]
  rfl
 refine one_ (i := 4) (N := some 9) (bs 8 31) rfl rfl (by kernel_rfl) (by decide) (fun K hK => ?_)
 refine goes_ Try.func24 (by kernel_rfl) rfl #[.int .u64 (uMulDiv fl 7 10)] (by rfl) rfl rfl (by simp only [List.map_toArray, List.map_cons, List.map_nil]; rfl) ?_
 with_reducible refine (reno_Held.C (uMulDiv fl 7 10) _).mono ?_
 rintro e w5 ⟨rfl, hd⟩
 refine ⟨_, rfl, ?_⟩
 have hl := hd.below
 clear hd
 replace Bg0 := Bg0.below hl; replace Bg1 := Bg1.below hl; replace HS := HS.below hl; clear hl; replace kg0_9 := Bg0.at 9 rfl; replace zg0_9 := Bg0.frozen 9
 refine hK.out _ _ ((Bg0.cell 9).trans rfl) (fun hHeld => ?_)
 clear hK K
 refine norm_ (a' := ?_) ?_ ?_
 rotate_left
 ·show Act.put _ (some 9) _ = _
  simp only [Act.put, zA_, z0_, z1_, i64_w, i32_w]
  rfl
 refine pure_ (i := 5) (N := some 10) (v := ?_) (a' := ?_) (bs 8 63) rfl rfl (by kernel_rfl) (fun _ _ _ h => h) (Or.inl ⟨by rfl, ?_⟩) ?_ ?_
 rotate_left
 ·intro w'
  go_simp
  with_reducible rfl
 rotate_left
 ·simp only [Act.put, zA_, z0_, z1_, i64_w, i32_w]
  rfl
 refine pu 6 11 (.pointer (some ⟨g0, 9, none⟩)) 127 rfl rfl (by kernel_rfl) (fun _ _ _ h => h) (by rfl) (fun _ => by kernel_rfl) rfl ?_
 refine norm_ (a' := ?_) ?_ ?_
 rotate_left
 ·simp only [Act.put, zA_, z0_, z1_, i64_w, i32_w]
  rfl
 refine last_ (i := 7) (N := none) (bs 8 255) rfl rfl (by kernel_rfl) (by decide) (fun K hK => ?_)
 refine skip_ (w1 := ?_) (by rfl) rfl ?_ ?_
 rotate_left
 ·go_simp
  rfl
 refine hK.out _ _ ?_
 clear hK K
 refine done_ (by kernel_rfl) ?_
 refine letter ?_
 intro w6 hW
 have Bn_ : Blk w6 g0 32 [.int .i64 p0, .slice A21 n21 k21, .int .u64 p2, .int .u64 p3, .int .u64 p4, .int .u64 p5, .int .u64 p6, .int .u64 p7, .int .u64 p8, .int .u64 (min p9 (uHeld (uMulDiv fl 7 10)))] := (by rw [hW]; (repeat (first | (with_reducible refine Blk.drewN ?_ _) | (with_reducible refine Blk.drew ?_))); refine Blk.set (l := [.int .i64 p0, .slice A21 n21 k21, .int .u64 p2, .int .u64 p3, .int .u64 p4, .int .u64 p5, .int .u64 p6, .int .u64 p7, .int .u64 p8, .int .u64 p9]) ?_ 9 _ rfl; (repeat (first | (with_reducible refine Blk.drewN ?_ _) | (with_reducible refine Blk.drew ?_))); exact Bg0)
 replace Bg0 := Bn_
 clear Bn_
 have Bn_ : Blk w6 g1 32 [.int .i64 0, .slice none 0 0, .int .u64 0, .int .u64 0, .int .u64 0, .int .u64 0, .int .u64 0, .int .u64 0, .int .u64 0, .int .u64 0] := (by rw [hW]; (repeat (first | (with_reducible refine Blk.drewN ?_ _) | (with_reducible refine Blk.drew ?_))); refine Blk.setFar ?_ Ng1_g0; (repeat (first | (with_reducible refine Blk.drewN ?_ _) | (with_reducible refine Blk.drew ?_))); exact Bg1)
 replace Bg1 := Bn_
 clear Bn_
 have HS_ : Since w w6 := (by rw [hW]; repeat (first | (with_reducible exact HS) | (with_reducible refine Since.drewN ?_ _) | (with_reducible refine Since.drew ?_) | (with_reducible refine Since.set ?_ GEg0)))
 replace HS := HS_
 clear HS_ hW
 clear kg0_9 zg0_9
 go_wp2_with (first | (refine seg_load rfl (N := 12) rfl 32 (.tmp 2) rfl g0 0 [.int .i64 p0, .slice A21 n21 k21, .int .u64 p2, .int .u64 p3, .int .u64 p4, .int .u64 p5, .int .u64 p6, .int .u64 p7, .int .u64 p8, .int .u64 (min p9 (uHeld (uMulDiv fl 7 10)))] rfl Bg0 rfl Try.underlying32 rfl (by kernel_rfl) ?_) | (refine seg_store rfl rfl 32 (.tmp 4) (.tmp 12) rfl g1 0 [.int .i64 p0, .slice A21 n21 k21, .int .u64 p2, .int .u64 p3, .int .u64 p4, .int .u64 p5, .int .u64 p6, .int .u64 p7, .int .u64 p8, .int .u64 (min p9 (uHeld (uMulDiv fl 7 10)))] [.int .i64 p0, .slice A21 n21 k21, .int .u64 p2, .int .u64 p3, .int .u64 p4, .int .u64 p5, .int .u64 p6, .int .u64 p7, .int .u64 p8, .int .u64 (min p9 (uHeld (uMulDiv fl 7 10)))] (.agg #[.int .i64 p0, .slice A21 n21 k21, .int .u64 p2, .int .u64 p3, .int .u64 p4, .int .u64 p5, .int .u64 p6, .int .u64 p7, .int .u64 p8, .int .u64 (min p9 (uHeld (uMulDiv fl 7 10)))]) rfl rfl rfl Bg1 (by kernel_rfl) (nle rfl) rfl rfl ?_; intro w7 hn hw; replace Bg0 := Bg0.grown hw Ng1_g0.symm; replace HS := HS.grown hw GEg1; replace Bg1 := hn; clear hw; clear hn))
 all_goals exact bodyPost_ret (results_cell1 rfl _ _ g1 32 [.int .i64 p0, .slice A21 n21 k21, .int .u64 p2, .int .u64 p3, .int .u64 p4, .int .u64 p5, .int .u64 p6, .int .u64 p7, .int .u64 p8, .int .u64 (min p9 (uHeld (uMulDiv fl 7 10)))] _ rfl Bg1 Try.underlying32 rfl (by kernel_rfl)) rfl ⟨rfl, HS.out⟩
theorem ackS3 (c5 c6 c7 c8 c9 c10 c11 c20 c22 c23 c24 c25 c26 c27 c28 c29 c39 c40 : Int) (A21 : Option Addr) (k21 : Nat) (l21 : List S90) (g_0 g_1 g_2 g_3 g_4 g_5 g_6 g_7 : Int) (g_8 g_9 : Bool) (hc : G3 c5 c6 c7 c8 c9 c10 c11 c20 c22 c23 c24 c25 c26 c27 c28 c29 c39 c40 l21) (Wg_0 : W64 g_0) (Wg_5 : W64 g_5) (Wg_7 : W64 g_7) (w : World) (hr21 : RB w A21 l21) (hk21 : l21.length ≤ k21) (hL21 : l21.length < 1000000) :
  Calls Try.prog 10 #[.agg (K3 c5 c6 c7 c8 c9 c10 c11 c20 (.slice A21 l21.length k21) c22 c23 c24 c25 c26 c27 c28 c29 c39 c40).toArray, .agg #[.int .u64 g_0, .int .u64 g_1, .int .u64 g_2, .int .u64 g_3, .int .u64 g_4, .int .u64 g_5, .int .u64 g_6, .int .u64 g_7, .bool g_8, .bool g_9]] w fun e w' => S3 A21 l21 (fun x y => True) w e w' := by
 have hu32 := Try.underlying32
 have hu36 := Try.underlying36
 have hu40 := Try.underlying40
 obtain ⟨hM_c20, hp_c5, Wc6, Wc7, Wc8, Wc9, Wc10, Wc11, Wc39, Wc40⟩ := hc
 have Wc22 := hM_c20.hm; have Wc23 := hM_c20.hmat; have Wc24 := hM_c20.hf; have Wc25 := hM_c20.ht; have Wc26 := hM_c20.hr; have Wc27 := hM_c20.hp; have Wc28 := hM_c20.hs; have Wc29 := hM_c20.h9
 have HS := Since.refl w
 go_enter Try.func10, Try.ntmps10
 go_wp2_with (first | (refine seg_new rfl (N := 2) rfl (K3 c5 c6 c7 c8 c9 c10 c11 c20 (.slice A21 l21.length k21) c22 c23 c24 c25 c26 c27 c28 c29 c39 c40) 36 ?hr ?_; (case hr => rfl); intro g0 hg w1 hn hl; have GEg0 := ge_new HS hg; clear hg; replace HS := HS.below hl; have Bg0 := hn; clear hl hn) | (refine seg_new rfl (N := 3) rfl [.int .u64 g_0, .int .u64 g_1, .int .u64 g_2, .int .u64 g_3, .int .u64 g_4, .int .u64 g_5, .int .u64 g_6, .int .u64 g_7, .bool g_8, .bool g_9] 40 ?hr ?_; (case hr => rfl); intro g1 hg w2 hn hl; have Ng1_g0 := ne_new Bg0 hg; have GEg1 := ge_new HS hg; clear hg; replace Bg0 := Bg0.below hl; replace HS := HS.below hl; have Bg1 := hn; clear hl hn) | (refine seg_new rfl (N := 4) rfl K0 36 ?hr ?_; (case hr => rfl); intro g2 hg w3 hn hl; have Ng2_g0 := ne_new Bg0 hg; have Ng2_g1 := ne_new Bg1 hg; have GEg2 := ge_new HS hg; clear hg; replace Bg0 := Bg0.below hl; replace Bg1 := Bg1.below hl; replace HS := HS.below hl; have Bg2 := hn; clear hl hn; have kg0_0 := Bg0.at 0 rfl) | (refine seg_load rfl (N := 42) rfl 32 (.tmp 41) rfl g0 20 [.int .i64 c20, .slice A21 l21.length k21, .int .u64 c22, .int .u64 c23, .int .u64 c24, .int .u64 c25, .int .u64 c26, .int .u64 c27, .int .u64 c28, .int .u64 c29] rfl Bg0 rfl Try.underlying32 rfl (by kernel_rfl) ?_) | (refine seg_load rfl (N := 43) rfl 40 (.tmp 3) rfl g1 0 [.int .u64 g_0, .int .u64 g_1, .int .u64 g_2, .int .u64 g_3, .int .u64 g_4, .int .u64 g_5, .int .u64 g_6, .int .u64 g_7, .bool g_8, .bool g_9] rfl Bg1 rfl Try.underlying40 rfl (by kernel_rfl) ?_) | ((go_at_call 22); (with_reducible refine (probeQ c20 c22 c23 c24 c25 c26 c27 c28 c29 g_0 g_1 g_2 g_3 g_4 g_5 g_6 g_7 g_8 g_9 A21 k21 l21 hM_c20 Wg_0 Wg_5 Wg_7 _ (hr21.below HS.out) hk21 hL21).mono ?_); rintro e w4 ⟨q3_20, q3_A, q3_k, q3_l, q3_22, q3_23, q3_24, q3_25, q3_26, q3_27, q3_28, q3_29, rfl, hM_q3_20, hl_q3_A, hk_q3_A, RB_q3_A, hF_q3_A, hl⟩; have NRB_q3_A_g0 := hF_q3_A.ne (NE_old hr21 GEg0) Bg0; have NRB_q3_A_g1 := hF_q3_A.ne (NE_old hr21 GEg1) Bg1; have NRB_q3_A_g2 := hF_q3_A.ne (NE_old hr21 GEg2) Bg2; replace hF_q3_A := hF_q3_A.mono HS.le; have Wq3_22 := hM_q3_20.hm; have Wq3_23 := hM_q3_20.hmat; have Wq3_24 := hM_q3_20.hf; have Wq3_25 := hM_q3_20.ht; have Wq3_26 := hM_q3_20.hr; have Wq3_27 := hM_q3_20.hp; have Wq3_28 := hM_q3_20.hs; have Wq3_29 := hM_q3_20.h9; replace Bg0 := Bg0.below hl; replace Bg1 := Bg1.below hl; replace Bg2 := Bg2.below hl; replace HS := HS.below hl; clear hl; clear kg0_0) | (refine seg_store rfl rfl 32 (.tmp 45) (.tmp 44) rfl g0 20 [.int .i64 q3_20, .slice q3_A q3_l.length q3_k, .int .u64 q3_22, .int .u64 q3_23, .int .u64 q3_24, .int .u64 q3_25, .int .u64 q3_26, .int .u64 q3_27, .int .u64 q3_28, .int .u64 q3_29] (K3 c5 c6 c7 c8 c9 c10 c11 q3_20 (.slice q3_A q3_l.length q3_k) q3_22 q3_23 q3_24 q3_25 q3_26 q3_27 q3_28 q3_29 c39 c40) (.agg #[.int .i64 q3_20, .slice q3_A q3_l.length q3_k, .int .u64 q3_22, .int .u64 q3_23, .int .u64 q3_24, .int .u64 q3_25, .int .u64 q3_26, .int .u64 q3_27, .int .u64 q3_28, .int .u64 q3_29]) rfl rfl rfl Bg0 (by kernel_rfl) (nle rfl) rfl rfl ?_; intro w5 hn hw; replace Bg1 := Bg1.grown hw Ng1_g0; replace Bg2 := Bg2.grown hw Ng2_g0; replace RB_q3_A := RB_q3_A.grown hw NRB_q3_A_g0; replace HS := HS.grown hw GEg0; replace Bg0 := hn; clear hw; clear hn) | (refine seg_load rfl (N := 53) rfl 36 (.tmp 2) rfl g0 0 (K3 c5 c6 c7 c8 c9 c10 c11 q3_20 (.slice q3_A q3_l.length q3_k) q3_22 q3_23 q3_24 q3_25 q3_26 q3_27 q3_28 q3_29 c39 c40) rfl Bg0 rfl Try.underlying36 rfl (by kernel_rfl) ?_) | (refine seg_store rfl rfl 36 (.tmp 4) (.tmp 53) rfl g2 0 (K3 c5 c6 c7 c8 c9 c10 c11 q3_20 (.slice q3_A q3_l.length q3_k) q3_22 q3_23 q3_24 q3_25 q3_26 q3_27 q3_28 q3_29 c39 c40) (K3 c5 c6 c7 c8 c9 c10 c11 q3_20 (.slice q3_A q3_l.length q3_k) q3_22 q3_23 q3_24 q3_25 q3_26 q3_27 q3_28 q3_29 c39 c40) (.agg (K3 c5 c6 c7 c8 c9 c10 c11 q3_20 (.slice q3_A q3_l.length q3_k) q3_22 q3_23 q3_24 q3_25 q3_26 q3_27 q3_28 q3_29 c39 c40).toArray) rfl rfl rfl Bg2 (by kernel_rfl) (nle rfl) rfl rfl ?_; intro w6 hn hw; replace Bg0 := Bg0.grown hw Ng2_g0.symm; replace Bg1 := Bg1.grown hw Ng2_g1.symm; replace RB_q3_A := RB_q3_A.grown hw NRB_q3_A_g2; replace HS := HS.grown hw GEg2; replace Bg2 := hn; clear hw; clear hn))
 all_goals exact bodyPost_ret (results_cell1 rfl _ _ g2 36 (K3 c5 c6 c7 c8 c9 c10 c11 q3_20 (.slice q3_A q3_l.length q3_k) q3_22 q3_23 q3_24 q3_25 q3_26 q3_27 q3_28 q3_29 c39 c40) _ rfl Bg2 Try.underlying36 rfl (by kernel_rfl)) rfl ⟨_, _, _, _, _, _, _, _, _, _, _, _, _, _, _, _, _, _, _, _, _, rfl, ⟨hM_q3_20, hp_c5, Wc6, Wc7, Wc8, Wc9, Wc10, Wc11, Wc39, Wc40⟩, hl_q3_A, hk_q3_A, RB_q3_A, hF_q3_A, trivial, HS.out⟩
theorem lossS3 (c5 c6 c7 c8 c9 c10 c11 c20 c22 c23 c24 c25 c26 c27 c28 c29 c39 c40 : Int) (A21 : Option Addr) (k21 : Nat) (l21 : List S90) (at_ now fl : Int) (hc : G3 c5 c6 c7 c8 c9 c10 c11 c20 c22 c23 c24 c25 c26 c27 c28 c29 c39 c40 l21) (Wfl : W64 fl) (w : World) (hr21 : RB w A21 l21) (hk21 : l21.length ≤ k21) (hL21 : l21.length < 1000000) :
  Calls Try.prog 17 #[.agg (K3 c5 c6 c7 c8 c9 c10 c11 c20 (.slice A21 l21.length k21) c22 c23 c24 c25 c26 c27 c28 c29 c39 c40).toArray, .int .u64 at_, .int .u64 now, .int .u64 fl] w fun e w' => S3 A21 l21 (fun x y => x ≤ uWin c20 l21 c22 c29) w e w' := by
 have hu32 := Try.underlying32
 have hu36 := Try.underlying36
 obtain ⟨hM_c20, hp_c5, Wc6, Wc7, Wc8, Wc9, Wc10, Wc11, Wc39, Wc40⟩ := hc
 have Wc22 := hM_c20.hm; have Wc23 := hM_c20.hmat; have Wc24 := hM_c20.hf; have Wc25 := hM_c20.ht; have Wc26 := hM_c20.hr; have Wc27 := hM_c20.hp; have Wc28 := hM_c20.hs; have Wc29 := hM_c20.h9
 have HS := Since.refl w
 go_enter Try.func17, Try.ntmps17
 go_wp2_with (first | (refine seg_new rfl (N := 4) rfl (K3 c5 c6 c7 c8 c9 c10 c11 c20 (.slice A21 l21.length k21) c22 c23 c24 c25 c26 c27 c28 c29 c39 c40) 36 ?hr ?_; (case hr => rfl); intro g0 hg w1 hn hl; have GEg0 := ge_new HS hg; clear hg; replace HS := HS.below hl; have Bg0 := hn; clear hl hn) | (refine seg_new rfl (N := 5) rfl [.int .u64 at_] 23 ?hr ?_; (case hr => rfl); intro g1 hg w2 hn hl; have Ng1_g0 := ne_new Bg0 hg; have GEg1 := ge_new HS hg; clear hg; replace Bg0 := Bg0.below hl; replace HS := HS.below hl; have Bg1 := hn; clear hl hn) | (refine seg_new rfl (N := 8) rfl K0 36 ?hr ?_; (case hr => rfl); intro g2 hg w3 hn hl; have Ng2_g0 := ne_new Bg0 hg; have Ng2_g1 := ne_new Bg1 hg; have GEg2 := ge_new HS hg; clear hg; replace Bg0 := Bg0.below hl; replace Bg1 := Bg1.below hl; replace HS := HS.below hl; have Bg2 := hn; clear hl hn; have kg0_0 := Bg0.at 0 rfl) | (refine seg_load rfl (N := 36) rfl 32 (.tmp 35) rfl g0 20 [.int .i64 c20, .slice A21 l21.length k21, .int .u64 c22, .int .u64 c23, .int .u64 c24, .int .u64 c25, .int .u64 c26, .int .u64 c27, .int .u64 c28, .int .u64 c29] rfl Bg0 rfl Try.underlying32 rfl (by kernel_rfl) ?_) | ((go_at_call 43); (with_reducible refine (probeL_0 c20 c22 c23 c24 c25 c26 c27 c28 c29 fl A21 l21.length k21 Wfl _).mono ?_); rintro e w4 ⟨rfl, hl⟩; replace Bg0 := Bg0.below hl; replace Bg1 := Bg1.below hl; replace Bg2 := Bg2.below hl; replace HS := HS.below hl; clear hl; clear kg0_0) | (refine seg_store rfl rfl 32 (.tmp 39) (.tmp 38) rfl g0 20 [.int .i64 c20, .slice A21 l21.length k21, .int .u64 c22, .int .u64 c23, .int .u64 c24, .int .u64 c25, .int .u64 c26, .int .u64 c27, .int .u64 c28, .int .u64 (min c29 (uHeld (uMulDiv fl 7 10)))] (K3 c5 c6 c7 c8 c9 c10 c11 c20 (.slice A21 l21.length k21) c22 c23 c24 c25 c26 c27 c28 (min c29 (uHeld (uMulDiv fl 7 10))) c39 c40) (.agg #[.int .i64 c20, .slice A21 l21.length k21, .int .u64 c22, .int .u64 c23, .int .u64 c24, .int .u64 c25, .int .u64 c26, .int .u64 c27, .int .u64 c28, .int .u64 (min c29 (uHeld (uMulDiv fl 7 10)))]) rfl rfl rfl Bg0 (by kernel_rfl) (nle rfl) rfl rfl ?_; intro w5 hn hw; replace Bg1 := Bg1.grown hw Ng1_g0; replace Bg2 := Bg2.grown hw Ng2_g0; replace HS := HS.grown hw GEg0; replace Bg0 := hn; clear hw; clear hn) | (refine seg_load rfl (N := 50) rfl 36 (.tmp 4) rfl g0 0 (K3 c5 c6 c7 c8 c9 c10 c11 c20 (.slice A21 l21.length k21) c22 c23 c24 c25 c26 c27 c28 (min c29 (uHeld (uMulDiv fl 7 10))) c39 c40) rfl Bg0 rfl Try.underlying36 rfl (by kernel_rfl) ?_) | (refine seg_store rfl rfl 36 (.tmp 8) (.tmp 50) rfl g2 0 (K3 c5 c6 c7 c8 c9 c10 c11 c20 (.slice A21 l21.length k21) c22 c23 c24 c25 c26 c27 c28 (min c29 (uHeld (uMulDiv fl 7 10))) c39 c40) (K3 c5 c6 c7 c8 c9 c10 c11 c20 (.slice A21 l21.length k21) c22 c23 c24 c25 c26 c27 c28 (min c29 (uHeld (uMulDiv fl 7 10))) c39 c40) (.agg (K3 c5 c6 c7 c8 c9 c10 c11 c20 (.slice A21 l21.length k21) c22 c23 c24 c25 c26 c27 c28 (min c29 (uHeld (uMulDiv fl 7 10))) c39 c40).toArray) rfl rfl rfl Bg2 (by kernel_rfl) (nle rfl) rfl rfl ?_; intro w6 hn hw; replace Bg0 := Bg0.grown hw Ng2_g0.symm; replace Bg1 := Bg1.grown hw Ng2_g1.symm; replace HS := HS.grown hw GEg2; replace Bg2 := hn; clear hw; clear hn))
 all_goals exact bodyPost_ret (results_cell1 rfl _ _ g2 36 (K3 c5 c6 c7 c8 c9 c10 c11 c20 (.slice A21 l21.length k21) c22 c23 c24 c25 c26 c27 c28 (min c29 (uHeld (uMulDiv fl 7 10))) c39 c40) _ rfl Bg2 Try.underlying36 rfl (by kernel_rfl)) rfl ⟨_, _, _, _, _, _, _, _, _, _, _, _, _, _, _, _, _, _, _, _, _, rfl, ⟨(hM_c20.high (min_in ⟨hM_c20.g0, hM_c20.g1⟩ (uHeld_in _))), hp_c5, Wc6, Wc7, Wc8, Wc9, Wc10, Wc11, Wc39, Wc40⟩, (Nat.le_succ _), hk21, (hr21.below HS.out), (.inl ⟨rfl, rfl⟩), (win_mono (Int.min_le_left _ _)), HS.out⟩
theorem markS3 (c5 c6 c7 c8 c9 c10 c11 c20 c22 c23 c24 c25 c26 c27 c28 c29 c39 c40 : Int) (A21 : Option Addr) (k21 : Nat) (l21 : List S90) (by_ at_ now fl : Int) (hc : G3 c5 c6 c7 c8 c9 c10 c11 c20 c22 c23 c24 c25 c26 c27 c28 c29 c39 c40 l21) (Wfl : W64 fl) (w : World) (hr21 : RB w A21 l21) (hk21 : l21.length ≤ k21) (hL21 : l21.length < 1000000) :
  Calls Try.prog 37 #[.agg (K3 c5 c6 c7 c8 c9 c10 c11 c20 (.slice A21 l21.length k21) c22 c23 c24 c25 c26 c27 c28 c29 c39 c40).toArray, .int .u64 by_, .int .u64 at_, .int .u64 now, .int .u64 fl] w fun e w' => S3 A21 l21 (fun x y => x ≤ uWin c20 l21 c22 c29) w e w' := by
 have hu36 := Try.underlying36
 obtain ⟨hM_c20, hp_c5, Wc6, Wc7, Wc8, Wc9, Wc10, Wc11, Wc39, Wc40⟩ := hc
 have Wc22 := hM_c20.hm; have Wc23 := hM_c20.hmat; have Wc24 := hM_c20.hf; have Wc25 := hM_c20.ht; have Wc26 := hM_c20.hr; have Wc27 := hM_c20.hp; have Wc28 := hM_c20.hs; have Wc29 := hM_c20.h9
 have HS := Since.refl w
 go_enter Try.func37, Try.ntmps37
 go_wp2_with (first | (refine seg_new rfl (N := 5) rfl (K3 c5 c6 c7 c8 c9 c10 c11 c20 (.slice A21 l21.length k21) c22 c23 c24 c25 c26 c27 c28 c29 c39 c40) 36 ?hr ?_; (case hr => rfl); intro g0 hg w1 hn hl; have GEg0 := ge_new HS hg; clear hg; replace HS := HS.below hl; have Bg0 := hn; clear hl hn) | (refine seg_new rfl (N := 10) rfl K0 36 ?hr ?_; (case hr => rfl); intro g1 hg w2 hn hl; have Ng1_g0 := ne_new Bg0 hg; have GEg1 := ge_new HS hg; clear hg; replace Bg0 := Bg0.below hl; replace HS := HS.below hl; have Bg1 := hn; clear hl hn; have kg0_0 := Bg0.at 0 rfl) | (refine seg_load rfl (N := 21) rfl 36 (.tmp 5) rfl g0 0 (K3 c5 c6 c7 c8 c9 c10 c11 c20 (.slice A21 l21.length k21) c22 c23 c24 c25 c26 c27 c28 c29 c39 c40) rfl Bg0 rfl Try.underlying36 rfl (by kernel_rfl) ?_) | ((go_at_call 17); (with_reducible refine (lossS3 c5 c6 c7 c8 c9 c10 c11 c20 c22 c23 c24 c25 c26 c27 c28 c29 c39 c40 A21 k21 l21 at_ now fl ⟨hM_c20, hp_c5, Wc6, Wc7, Wc8, Wc9, Wc10, Wc11, Wc39, Wc40⟩ Wfl _ (hr21.below HS.out) hk21 hL21).mono ?_); rintro e w3 ⟨a2_5, a2_6, a2_7, a2_8, a2_9, a2_10, a2_11, a2_20, a2_22, a2_23, a2_24, a2_25, a2_26, a2_27, a2_28, a2_29, a2_39, a2_40, a2_A, a2_k, a2_l, rfl, ⟨hM_a2_20, hp_a2_5, Wa2_6, Wa2_7, Wa2_8, Wa2_9, Wa2_10, Wa2_11, Wa2_39, Wa2_40⟩, hl_a2_A, hk_a2_A, RB_a2_A, hF_a2_A, hR_a2_, hl⟩; have NRB_a2_A_g0 := hF_a2_A.ne (NE_old hr21 GEg0) Bg0; have NRB_a2_A_g1 := hF_a2_A.ne (NE_old hr21 GEg1) Bg1; replace hF_a2_A := hF_a2_A.mono HS.le; have Wa2_22 := hM_a2_20.hm; have Wa2_23 := hM_a2_20.hmat; have Wa2_24 := hM_a2_20.hf; have Wa2_25 := hM_a2_20.ht; have Wa2_26 := hM_a2_20.hr; have Wa2_27 := hM_a2_20.hp; have Wa2_28 := hM_a2_20.hs; have Wa2_29 := hM_a2_20.h9; replace Bg0 := Bg0.below hl; replace Bg1 := Bg1.below hl; replace HS := HS.below hl; clear hl; clear kg0_0) | (refine seg_store rfl rfl 36 (.tmp 10) (.tmp 25) rfl g1 0 (K3 a2_5 a2_6 a2_7 a2_8 a2_9 a2_10 a2_11 a2_20 (.slice a2_A a2_l.length a2_k) a2_22 a2_23 a2_24 a2_25 a2_26 a2_27 a2_28 a2_29 a2_39 a2_40) (K3 a2_5 a2_6 a2_7 a2_8 a2_9 a2_10 a2_11 a2_20 (.slice a2_A a2_l.length a2_k) a2_22 a2_23 a2_24 a2_25 a2_26 a2_27 a2_28 a2_29 a2_39 a2_40) (.agg (K3 a2_5 a2_6 a2_7 a2_8 a2_9 a2_10 a2_11 a2_20 (.slice a2_A a2_l.length a2_k) a2_22 a2_23 a2_24 a2_25 a2_26 a2_27 a2_28 a2_29 a2_39 a2_40).toArray) rfl rfl rfl Bg1 (by kernel_rfl) (nle rfl) rfl rfl ?_; intro w4 hn hw; replace Bg0 := Bg0.grown hw Ng1_g0.symm; replace RB_a2_A := RB_a2_A.grown hw NRB_a2_A_g1; replace HS := HS.grown hw GEg1; replace Bg1 := hn; clear hw; clear hn))
 all_goals exact bodyPost_ret (results_cell1 rfl _ _ g1 36 (K3 a2_5 a2_6 a2_7 a2_8 a2_9 a2_10 a2_11 a2_20 (.slice a2_A a2_l.length a2_k) a2_22 a2_23 a2_24 a2_25 a2_26 a2_27 a2_28 a2_29 a2_39 a2_40) _ rfl Bg1 Try.underlying36 rfl (by kernel_rfl)) rfl ⟨_, _, _, _, _, _, _, _, _, _, _, _, _, _, _, _, _, _, _, _, _, rfl, ⟨hM_a2_20, hp_a2_5, Wa2_6, Wa2_7, Wa2_8, Wa2_9, Wa2_10, Wa2_11, Wa2_39, Wa2_40⟩, hl_a2_A, hk_a2_A, RB_a2_A, hF_a2_A, hR_a2_, HS.out⟩
theorem collS3 (c5 c6 c7 c8 c9 c10 c11 c20 c22 c23 c24 c25 c26 c27 c28 c29 c39 c40 : Int) (A21 : Option Addr) (k21 : Nat) (l21 : List S90) (fl : Int) (hc : G3 c5 c6 c7 c8 c9 c10 c11 c20 c22 c23 c24 c25 c26 c27 c28 c29 c39 c40 l21)  (w : World) (hr21 : RB w A21 l21) (hk21 : l21.length ≤ k21) (hL21 : l21.length < 1000000) :
  Calls Try.prog 38 #[.agg (K3 c5 c6 c7 c8 c9 c10 c11 c20 (.slice A21 l21.length k21) c22 c23 c24 c25 c26 c27 c28 c29 c39 c40).toArray, .int .u64 fl] w fun e w' => S3 A21 l21 (fun x y => x ≤ uWin c20 l21 c22 c29) w e w' := by
 have hu32 := Try.underlying32
 have hu36 := Try.underlying36
 obtain ⟨hM_c20, hp_c5, Wc6, Wc7, Wc8, Wc9, Wc10, Wc11, Wc39, Wc40⟩ := hc
 have Wc22 := hM_c20.hm; have Wc23 := hM_c20.hmat; have Wc24 := hM_c20.hf; have Wc25 := hM_c20.ht; have Wc26 := hM_c20.hr; have Wc27 := hM_c20.hp; have Wc28 := hM_c20.hs; have Wc29 := hM_c20.h9
 have HS := Since.refl w
 go_enter Try.func38, Try.ntmps38
 go_wp2_with (first | (refine seg_new rfl (N := 2) rfl (K3 c5 c6 c7 c8 c9 c10 c11 c20 (.slice A21 l21.length k21) c22 c23 c24 c25 c26 c27 c28 c29 c39 c40) 36 ?hr ?_; (case hr => rfl); intro g0 hg w1 hn hl; have GEg0 := ge_new HS hg; clear hg; replace HS := HS.below hl; have Bg0 := hn; clear hl hn) | (refine seg_new rfl (N := 4) rfl K0 36 ?hr ?_; (case hr => rfl); intro g1 hg w2 hn hl; have Ng1_g0 := ne_new Bg0 hg; have GEg1 := ge_new HS hg; clear hg; replace Bg0 := Bg0.below hl; replace HS := HS.below hl; have Bg1 := hn; clear hl hn; have kg0_0 := Bg0.at 0 rfl) | (refine seg_load rfl (N := 23) rfl 32 (.tmp 22) rfl g0 20 [.int .i64 c20, .slice A21 l21.length k21, .int .u64 c22, .int .u64 c23, .int .u64 c24, .int .u64 c25, .int .u64 c26, .int .u64 c27, .int .u64 c28, .int .u64 c29] rfl Bg0 rfl Try.underlying32 rfl (by kernel_rfl) ?_) | ((go_at_call 43); (with_reducible refine (probeL_0 c20 c22 c23 c24 c25 c26 c27 c28 c29 0 A21 l21.length k21 (by decide) _).mono ?_); rintro e w3 ⟨rfl, hl⟩; replace Bg0 := Bg0.below hl; replace Bg1 := Bg1.below hl; replace HS := HS.below hl; clear hl; clear kg0_0) | (refine seg_store rfl rfl 32 (.tmp 25) (.tmp 24) rfl g0 20 [.int .i64 c20, .slice A21 l21.length k21, .int .u64 c22, .int .u64 c23, .int .u64 c24, .int .u64 c25, .int .u64 c26, .int .u64 c27, .int .u64 c28, .int .u64 (min c29 (uHeld (uMulDiv 0 7 10)))] (K3 c5 c6 c7 c8 c9 c10 c11 c20 (.slice A21 l21.length k21) c22 c23 c24 c25 c26 c27 c28 (min c29 (uHeld (uMulDiv 0 7 10))) c39 c40) (.agg #[.int .i64 c20, .slice A21 l21.length k21, .int .u64 c22, .int .u64 c23, .int .u64 c24, .int .u64 c25, .int .u64 c26, .int .u64 c27, .int .u64 c28, .int .u64 (min c29 (uHeld (uMulDiv 0 7 10)))]) rfl rfl rfl Bg0 (by kernel_rfl) (nle rfl) rfl rfl ?_; intro w4 hn hw; replace Bg1 := Bg1.grown hw Ng1_g0; replace HS := HS.grown hw GEg0; replace Bg0 := hn; clear hw; clear hn) | (refine seg_store rfl rfl 23 (.tmp 32) (.const (.int .u64 0)) rfl g0 39 [.int .u64 0] (K3 c5 c6 c7 c8 c9 c10 c11 c20 (.slice A21 l21.length k21) c22 c23 c24 c25 c26 c27 c28 (min c29 (uHeld (uMulDiv 0 7 10))) 0 c40) (.int .u64 0) rfl rfl rfl Bg0 (by kernel_rfl) (nle rfl) rfl rfl ?_; intro w5 hn hw; replace Bg1 := Bg1.grown hw Ng1_g0; replace HS := HS.grown hw GEg0; replace Bg0 := hn; clear hw; clear hn) | (refine seg_store rfl rfl 23 (.tmp 33) (.const (.int .u64 0)) rfl g0 40 [.int .u64 0] (K3 c5 c6 c7 c8 c9 c10 c11 c20 (.slice A21 l21.length k21) c22 c23 c24 c25 c26 c27 c28 (min c29 (uHeld (uMulDiv 0 7 10))) 0 0) (.int .u64 0) rfl rfl rfl Bg0 (by kernel_rfl) (nle rfl) rfl rfl ?_; intro w6 hn hw; replace Bg1 := Bg1.grown hw Ng1_g0; replace HS := HS.grown hw GEg0; replace Bg0 := hn; clear hw; clear hn) | (refine seg_load rfl (N := 34) rfl 36 (.tmp 2) rfl g0 0 (K3 c5 c6 c7 c8 c9 c10 c11 c20 (.slice A21 l21.length k21) c22 c23 c24 c25 c26 c27 c28 (min c29 (uHeld (uMulDiv 0 7 10))) 0 0) rfl Bg0 rfl Try.underlying36 rfl (by kernel_rfl) ?_) | (refine seg_store rfl rfl 36 (.tmp 4) (.tmp 34) rfl g1 0 (K3 c5 c6 c7 c8 c9 c10 c11 c20 (.slice A21 l21.length k21) c22 c23 c24 c25 c26 c27 c28 (min c29 (uHeld (uMulDiv 0 7 10))) 0 0) (K3 c5 c6 c7 c8 c9 c10 c11 c20 (.slice A21 l21.length k21) c22 c23 c24 c25 c26 c27 c28 (min c29 (uHeld (uMulDiv 0 7 10))) 0 0) (.agg (K3 c5 c6 c7 c8 c9 c10 c11 c20 (.slice A21 l21.length k21) c22 c23 c24 c25 c26 c27 c28 (min c29 (uHeld (uMulDiv 0 7 10))) 0 0).toArray) rfl rfl rfl Bg1 (by kernel_rfl) (nle rfl) rfl rfl ?_; intro w7 hn hw; replace Bg0 := Bg0.grown hw Ng1_g0.symm; replace HS := HS.grown hw GEg1; replace Bg1 := hn; clear hw; clear hn))
 all_goals exact bodyPost_ret (results_cell1 rfl _ _ g1 36 (K3 c5 c6 c7 c8 c9 c10 c11 c20 (.slice A21 l21.length k21) c22 c23 c24 c25 c26 c27 c28 (min c29 (uHeld (uMulDiv 0 7 10))) 0 0) _ rfl Bg1 Try.underlying36 rfl (by kernel_rfl)) rfl ⟨_, _, _, _, _, _, _, _, _, _, _, _, _, _, _, _, _, _, _, _, _, rfl, ⟨(hM_c20.high (min_in ⟨hM_c20.g0, hM_c20.g1⟩ (uHeld_in _))), hp_c5, Wc6, Wc7, Wc8, Wc9, Wc10, Wc11, (by decide), (by decide)⟩, (Nat.le_succ _), hk21, (hr21.below HS.out), (.inl ⟨rfl, rfl⟩), (win_mono (Int.min_le_left _ _)), HS.out⟩
theorem undoS3 (c5 c6 c7 c8 c9 c10 c11 c20 c22 c23 c24 c25 c26 c27 c28 c29 c39 c40 : Int) (A21 : Option Addr) (k21 : Nat) (l21 : List S90) (hc : G3 c5 c6 c7 c8 c9 c10 c11 c20 c22 c23 c24 c25 c26 c27 c28 c29 c39 c40 l21)  (w : World) (hr21 : RB w A21 l21) (hk21 : l21.length ≤ k21) (hL21 : l21.length < 1000000) :
  Calls Try.prog 18 #[.agg (K3 c5 c6 c7 c8 c9 c10 c11 c20 (.slice A21 l21.length k21) c22 c23 c24 c25 c26 c27 c28 c29 c39 c40).toArray] w fun e w' => S3 A21 l21 (fun x y => uWin c20 l21 c22 c29 ≤ x) w e w' := by
 have hu32 := Try.underlying32
 have hu36 := Try.underlying36
 obtain ⟨hM_c20, hp_c5, Wc6, Wc7, Wc8, Wc9, Wc10, Wc11, Wc39, Wc40⟩ := hc
 have Wc22 := hM_c20.hm; have Wc23 := hM_c20.hmat; have Wc24 := hM_c20.hf; have Wc25 := hM_c20.ht; have Wc26 := hM_c20.hr; have Wc27 := hM_c20.hp; have Wc28 := hM_c20.hs; have Wc29 := hM_c20.h9
 have HS := Since.refl w
 go_enter Try.func18, Try.ntmps18
 go_wp2_with (first | (refine seg_new rfl (N := 1) rfl (K3 c5 c6 c7 c8 c9 c10 c11 c20 (.slice A21 l21.length k21) c22 c23 c24 c25 c26 c27 c28 c29 c39 c40) 36 ?hr ?_; (case hr => rfl); intro g0 hg w1 hn hl; have GEg0 := ge_new HS hg; clear hg; replace HS := HS.below hl; have Bg0 := hn; clear hl hn) | (refine seg_new rfl (N := 2) rfl K0 36 ?hr ?_; (case hr => rfl); intro g1 hg w2 hn hl; have Ng1_g0 := ne_new Bg0 hg; have GEg1 := ge_new HS hg; clear hg; replace Bg0 := Bg0.below hl; replace HS := HS.below hl; have Bg1 := hn; clear hl hn; have kg0_0 := Bg0.at 0 rfl) | (refine seg_store rfl rfl 23 (.tmp 16) (.const (.int .u64 16777216)) rfl g0 29 [.int .u64 16777216] (K3 c5 c6 c7 c8 c9 c10 c11 c20 (.slice A21 l21.length k21) c22 c23 c24 c25 c26 c27 c28 16777216 c39 c40) (.int .u64 16777216) rfl rfl rfl Bg0 (by kernel_rfl) (nle rfl) rfl rfl ?_; intro w3 hn hw; replace Bg1 := Bg1.grown hw Ng1_g0; replace HS := HS.grown hw GEg0; replace Bg0 := hn; clear hw; clear kg0_0; clear hn) | (refine seg_load rfl (N := 44) rfl 36 (.tmp 1) rfl g0 0 (K3 c5 c6 c7 c8 c9 c10 c11 c20 (.slice A21 l21.length k21) c22 c23 c24 c25 c26 c27 c28 16777216 c39 c40) rfl Bg0 rfl Try.underlying36 rfl (by kernel_rfl) ?_) | (refine seg_store rfl rfl 36 (.tmp 2) (.tmp 44) rfl g1 0 (K3 c5 c6 c7 c8 c9 c10 c11 c20 (.slice A21 l21.length k21) c22 c23 c24 c25 c26 c27 c28 16777216 c39 c40) (K3 c5 c6 c7 c8 c9 c10 c11 c20 (.slice A21 l21.length k21) c22 c23 c24 c25 c26 c27 c28 16777216 c39 c40) (.agg (K3 c5 c6 c7 c8 c9 c10 c11 c20 (.slice A21 l21.length k21) c22 c23 c24 c25 c26 c27 c28 16777216 c39 c40).toArray) rfl rfl rfl Bg1 (by kernel_rfl) (nle rfl) rfl rfl ?_; intro w4 hn hw; replace Bg0 := Bg0.grown hw Ng1_g0.symm; replace HS := HS.grown hw GEg1; replace Bg1 := hn; clear hw; clear hn))
 all_goals exact bodyPost_ret (results_cell1 rfl _ _ g1 36 (K3 c5 c6 c7 c8 c9 c10 c11 c20 (.slice A21 l21.length k21) c22 c23 c24 c25 c26 c27 c28 16777216 c39 c40) _ rfl Bg1 Try.underlying36 rfl (by kernel_rfl)) rfl ⟨_, _, _, _, _, _, _, _, _, _, _, _, _, _, _, _, _, _, _, _, _, rfl, ⟨(hM_c20.high ⟨by decide, by decide⟩), hp_c5, Wc6, Wc7, Wc8, Wc9, Wc10, Wc11, Wc39, Wc40⟩, (Nat.le_succ _), hk21, (hr21.below HS.out), (.inl ⟨rfl, rfl⟩), (win_mono hM_c20.g1), HS.out⟩
theorem nextS3_1 (c5 c6 c7 c8 c9 c10 c11 c20 c22 c23 c24 c25 c26 c27 c28 c29 c39 c40 : Int) (A21 : Option Addr) (k21 : Nat) (l21 : List S90) (g_0 g_1 g_2 g_3 g_4 g_5 g_6 g_7 at_ : Int) (g_8 g_9 : Bool) (hc : G3 c5 c6 c7 c8 c9 c10 c11 c20 c22 c23 c24 c25 c26 c27 c28 c29 c39 c40 l21) (Wg_0 : W64 g_0) (Wg_5 : W64 g_5) (Wg_7 : W64 g_7) (w : World) (hr21 : RB w A21 l21) (hk21 : l21.length ≤ k21) (hL21 : l21.length < 1000000) :
  Calls Try.prog 16 #[.agg (K3 c5 c6 c7 c8 c9 c10 c11 c20 (.slice A21 l21.length k21) c22 c23 c24 c25 c26 c27 c28 c29 c39 c40).toArray, .agg #[.int .i64 1, .int .u64 g_0, .int .u64 g_1, .int .u64 g_2, .int .u64 g_3, .int .u64 g_4, .int .u64 g_5, .int .u64 g_6, .int .u64 g_7, .bool g_8, .bool g_9, .int .u64 at_]] w fun e w' => S3 A21 l21 (fun x y => ((1 : Int) = 2 ∨ (1 : Int) = 3 ∨ (1 : Int) = 4 → x ≤ uWin c20 l21 c22 c29) ∧ ((1 : Int) = 5 → uWin c20 l21 c22 c29 ≤ x)) w e w' := by
 have hu36 := Try.underlying36
 have hu40 := Try.underlying40
 have hu53 := Try.underlying53
 obtain ⟨hM_c20, hp_c5, Wc6, Wc7, Wc8, Wc9, Wc10, Wc11, Wc39, Wc40⟩ := hc
 have Wc22 := hM_c20.hm; have Wc23 := hM_c20.hmat; have Wc24 := hM_c20.hf; have Wc25 := hM_c20.ht; have Wc26 := hM_c20.hr; have Wc27 := hM_c20.hp; have Wc28 := hM_c20.hs; have Wc29 := hM_c20.h9
 have HS := Since.refl w
 go_enter Try.func16, Try.ntmps16
 go_wp2_with (first | (refine seg_new rfl (N := 2) rfl (K3 c5 c6 c7 c8 c9 c10 c11 c20 (.slice A21 l21.length k21) c22 c23 c24 c25 c26 c27 c28 c29 c39 c40) 36 ?hr ?_; (case hr => rfl); intro g0 hg w1 hn hl; have GEg0 := ge_new HS hg; clear hg; replace HS := HS.below hl; have Bg0 := hn; clear hl hn) | (refine seg_new rfl (N := 3) rfl [.int .i64 1, .int .u64 g_0, .int .u64 g_1, .int .u64 g_2, .int .u64 g_3, .int .u64 g_4, .int .u64 g_5, .int .u64 g_6, .int .u64 g_7, .bool g_8, .bool g_9, .int .u64 at_] 53 ?hr ?_; (case hr => rfl); intro g1 hg w2 hn hl; have Ng1_g0 := ne_new Bg0 hg; have GEg1 := ge_new HS hg; clear hg; replace Bg0 := Bg0.below hl; replace HS := HS.below hl; have Bg1 := hn; clear hl hn) | (refine seg_new rfl (N := 4) rfl K0 36 ?hr ?_; (case hr => rfl); intro g2 hg w3 hn hl; have Ng2_g0 := ne_new Bg0 hg; have Ng2_g1 := ne_new Bg1 hg; have GEg2 := ge_new HS hg; clear hg; replace Bg0 := Bg0.below hl; replace Bg1 := Bg1.below hl; replace HS := HS.below hl; have Bg2 := hn; clear hl hn; have kg1_0 := Bg1.at 0 rfl) | (refine seg_load rfl (N := 9) rfl 36 (.tmp 2) rfl g0 0 (K3 c5 c6 c7 c8 c9 c10 c11 c20 (.slice A21 l21.length k21) c22 c23 c24 c25 c26 c27 c28 c29 c39 c40) rfl Bg0 rfl Try.underlying36 rfl (by kernel_rfl) ?_) | (refine seg_load rfl (N := 11) rfl 40 (.tmp 10) rfl g1 1 [.int .u64 g_0, .int .u64 g_1, .int .u64 g_2, .int .u64 g_3, .int .u64 g_4, .int .u64 g_5, .int .u64 g_6, .int .u64 g_7, .bool g_8, .bool g_9] rfl Bg1 rfl Try.underlying40 rfl (by kernel_rfl) ?_) | ((go_at_call 10); (with_reducible refine (ackS3 c5 c6 c7 c8 c9 c10 c11 c20 c22 c23 c24 c25 c26 c27 c28 c29 c39 c40 A21 k21 l21 g_0 g_1 g_2 g_3 g_4 g_5 g_6 g_7 g_8 g_9 ⟨hM_c20, hp_c5, Wc6, Wc7, Wc8, Wc9, Wc10, Wc11, Wc39, Wc40⟩ Wg_0 Wg_5 Wg_7 _ (hr21.below HS.out) hk21 hL21).mono ?_); rintro e w4 ⟨a3_5, a3_6, a3_7, a3_8, a3_9, a3_10, a3_11, a3_20, a3_22, a3_23, a3_24, a3_25, a3_26, a3_27, a3_28, a3_29, a3_39, a3_40, a3_A, a3_k, a3_l, rfl, ⟨hM_a3_20, hp_a3_5, Wa3_6, Wa3_7, Wa3_8, Wa3_9, Wa3_10, Wa3_11, Wa3_39, Wa3_40⟩, hl_a3_A, hk_a3_A, RB_a3_A, hF_a3_A, hR_a3_, hl⟩; have NRB_a3_A_g0 := hF_a3_A.ne (NE_old hr21 GEg0) Bg0; have NRB_a3_A_g1 := hF_a3_A.ne (NE_old hr21 GEg1) Bg1; have NRB_a3_A_g2 := hF_a3_A.ne (NE_old hr21 GEg2) Bg2; replace hF_a3_A := hF_a3_A.mono HS.le; have Wa3_22 := hM_a3_20.hm; have Wa3_23 := hM_a3_20.hmat; have Wa3_24 := hM_a3_20.hf; have Wa3_25 := hM_a3_20.ht; have Wa3_26 := hM_a3_20.hr; have Wa3_27 := hM_a3_20.hp; have Wa3_28 := hM_a3_20.hs; have Wa3_29 := hM_a3_20.h9; replace Bg0 := Bg0.below hl; replace Bg1 := Bg1.below hl; replace Bg2 := Bg2.below hl; replace HS := HS.below hl; clear hl; clear kg1_0) | (refine seg_store rfl rfl 36 (.tmp 4) (.tmp 12) rfl g2 0 (K3 a3_5 a3_6 a3_7 a3_8 a3_9 a3_10 a3_11 a3_20 (.slice a3_A a3_l.length a3_k) a3_22 a3_23 a3_24 a3_25 a3_26 a3_27 a3_28 a3_29 a3_39 a3_40) (K3 a3_5 a3_6 a3_7 a3_8 a3_9 a3_10 a3_11 a3_20 (.slice a3_A a3_l.length a3_k) a3_22 a3_23 a3_24 a3_25 a3_26 a3_27 a3_28 a3_29 a3_39 a3_40) (.agg (K3 a3_5 a3_6 a3_7 a3_8 a3_9 a3_10 a3_11 a3_20 (.slice a3_A a3_l.length a3_k) a3_22 a3_23 a3_24 a3_25 a3_26 a3_27 a3_28 a3_29 a3_39 a3_40).toArray) rfl rfl rfl Bg2 (by kernel_rfl) (nle rfl) rfl rfl ?_; intro w5 hn hw; replace Bg0 := Bg0.grown hw Ng2_g0.symm; replace Bg1 := Bg1.grown hw Ng2_g1.symm; replace RB_a3_A := RB_a3_A.grown hw NRB_a3_A_g2; replace HS := HS.grown hw GEg2; replace Bg2 := hn; clear hw; clear hn))
 all_goals exact bodyPost_ret (results_cell1 rfl _ _ g2 36 (K3 a3_5 a3_6 a3_7 a3_8 a3_9 a3_10 a3_11 a3_20 (.slice a3_A a3_l.length a3_k) a3_22 a3_23 a3_24 a3_25 a3_26 a3_27 a3_28 a3_29 a3_39 a3_40) _ rfl Bg2 Try.underlying36 rfl (by kernel_rfl)) rfl ⟨_, _, _, _, _, _, _, _, _, _, _, _, _, _, _, _, _, _, _, _, _, rfl, ⟨hM_a3_20, hp_a3_5, Wa3_6, Wa3_7, Wa3_8, Wa3_9, Wa3_10, Wa3_11, Wa3_39, Wa3_40⟩, hl_a3_A, hk_a3_A, RB_a3_A, hF_a3_A, ⟨fun h_ => absurd h_ (by decide), fun h_ => absurd h_ (by decide)⟩, HS.out⟩
theorem nextS3_2 (c5 c6 c7 c8 c9 c10 c11 c20 c22 c23 c24 c25 c26 c27 c28 c29 c39 c40 : Int) (A21 : Option Addr) (k21 : Nat) (l21 : List S90) (g_0 g_1 g_2 g_3 g_4 g_5 g_6 g_7 at_ : Int) (g_8 g_9 : Bool) (hc : G3 c5 c6 c7 c8 c9 c10 c11 c20 c22 c23 c24 c25 c26 c27 c28 c29 c39 c40 l21) (Wg_6 : W64 g_6) (w : World) (hr21 : RB w A21 l21) (hk21 : l21.length ≤ k21) (hL21 : l21.length < 1000000) :
  Calls Try.prog 16 #[.agg (K3 c5 c6 c7 c8 c9 c10 c11 c20 (.slice A21 l21.length k21) c22 c23 c24 c25 c26 c27 c28 c29 c39 c40).toArray, .agg #[.int .i64 2, .int .u64 g_0, .int .u64 g_1, .int .u64 g_2, .int .u64 g_3, .int .u64 g_4, .int .u64 g_5, .int .u64 g_6, .int .u64 g_7, .bool g_8, .bool g_9, .int .u64 at_]] w fun e w' => S3 A21 l21 (fun x y => ((2 : Int) = 2 ∨ (2 : Int) = 3 ∨ (2 : Int) = 4 → x ≤ uWin c20 l21 c22 c29) ∧ ((2 : Int) = 5 → uWin c20 l21 c22 c29 ≤ x)) w e w' := by
 have hu36 := Try.underlying36
 have hu40 := Try.underlying40
 have hu53 := Try.underlying53
 obtain ⟨hM_c20, hp_c5, Wc6, Wc7, Wc8, Wc9, Wc10, Wc11, Wc39, Wc40⟩ := hc
 have Wc22 := hM_c20.hm; have Wc23 := hM_c20.hmat; have Wc24 := hM_c20.hf; have Wc25 := hM_c20.ht; have Wc26 := hM_c20.hr; have Wc27 := hM_c20.hp; have Wc28 := hM_c20.hs; have Wc29 := hM_c20.h9
 have HS := Since.refl w
 go_enter Try.func16, Try.ntmps16
 go_wp2_with (first | (refine seg_new rfl (N := 2) rfl (K3 c5 c6 c7 c8 c9 c10 c11 c20 (.slice A21 l21.length k21) c22 c23 c24 c25 c26 c27 c28 c29 c39 c40) 36 ?hr ?_; (case hr => rfl); intro g0 hg w1 hn hl; have GEg0 := ge_new HS hg; clear hg; replace HS := HS.below hl; have Bg0 := hn; clear hl hn) | (refine seg_new rfl (N := 3) rfl [.int .i64 2, .int .u64 g_0, .int .u64 g_1, .int .u64 g_2, .int .u64 g_3, .int .u64 g_4, .int .u64 g_5, .int .u64 g_6, .int .u64 g_7, .bool g_8, .bool g_9, .int .u64 at_] 53 ?hr ?_; (case hr => rfl); intro g1 hg w2 hn hl; have Ng1_g0 := ne_new Bg0 hg; have GEg1 := ge_new HS hg; clear hg; replace Bg0 := Bg0.below hl; replace HS := HS.below hl; have Bg1 := hn; clear hl hn) | (refine seg_new rfl (N := 4) rfl K0 36 ?hr ?_; (case hr => rfl); intro g2 hg w3 hn hl; have Ng2_g0 := ne_new Bg0 hg; have Ng2_g1 := ne_new Bg1 hg; have GEg2 := ge_new HS hg; clear hg; replace Bg0 := Bg0.below hl; replace Bg1 := Bg1.below hl; replace HS := HS.below hl; have Bg2 := hn; clear hl hn; have kg1_0 := Bg1.at 0 rfl; have kg1_1 := Bg1.at 1 rfl; have kg1_7 := Bg1.at 7 rfl; have kg1_11 := Bg1.at 11 rfl) | (refine seg_load rfl (N := 15) rfl 36 (.tmp 2) rfl g0 0 (K3 c5 c6 c7 c8 c9 c10 c11 c20 (.slice A21 l21.length k21) c22 c23 c24 c25 c26 c27 c28 c29 c39 c40) rfl Bg0 rfl Try.underlying36 rfl (by kernel_rfl) ?_) | ((go_at_call 17); (with_reducible refine (lossS3 c5 c6 c7 c8 c9 c10 c11 c20 c22 c23 c24 c25 c26 c27 c28 c29 c39 c40 A21 k21 l21 at_ g_0 g_6 ⟨hM_c20, hp_c5, Wc6, Wc7, Wc8, Wc9, Wc10, Wc11, Wc39, Wc40⟩ Wg_6 _ (hr21.below HS.out) hk21 hL21).mono ?_); rintro e w4 ⟨a3_5, a3_6, a3_7, a3_8, a3_9, a3_10, a3_11, a3_20, a3_22, a3_23, a3_24, a3_25, a3_26, a3_27, a3_28, a3_29, a3_39, a3_40, a3_A, a3_k, a3_l, rfl, ⟨hM_a3_20, hp_a3_5, Wa3_6, Wa3_7, Wa3_8, Wa3_9, Wa3_10, Wa3_11, Wa3_39, Wa3_40⟩, hl_a3_A, hk_a3_A, RB_a3_A, hF_a3_A, hR_a3_, hl⟩; have NRB_a3_A_g0 := hF_a3_A.ne (NE_old hr21 GEg0) Bg0; have NRB_a3_A_g1 := hF_a3_A.ne (NE_old hr21 GEg1) Bg1; have NRB_a3_A_g2 := hF_a3_A.ne (NE_old hr21 GEg2) Bg2; replace hF_a3_A := hF_a3_A.mono HS.le; have Wa3_22 := hM_a3_20.hm; have Wa3_23 := hM_a3_20.hmat; have Wa3_24 := hM_a3_20.hf; have Wa3_25 := hM_a3_20.ht; have Wa3_26 := hM_a3_20.hr; have Wa3_27 := hM_a3_20.hp; have Wa3_28 := hM_a3_20.hs; have Wa3_29 := hM_a3_20.h9; replace Bg0 := Bg0.below hl; replace Bg1 := Bg1.below hl; replace Bg2 := Bg2.below hl; replace HS := HS.below hl; clear hl; clear kg1_0 kg1_1 kg1_7 kg1_11) | (refine seg_store rfl rfl 36 (.tmp 4) (.tmp 24) rfl g2 0 (K3 a3_5 a3_6 a3_7 a3_8 a3_9 a3_10 a3_11 a3_20 (.slice a3_A a3_l.length a3_k) a3_22 a3_23 a3_24 a3_25 a3_26 a3_27 a3_28 a3_29 a3_39 a3_40) (K3 a3_5 a3_6 a3_7 a3_8 a3_9 a3_10 a3_11 a3_20 (.slice a3_A a3_l.length a3_k) a3_22 a3_23 a3_24 a3_25 a3_26 a3_27 a3_28 a3_29 a3_39 a3_40) (.agg (K3 a3_5 a3_6 a3_7 a3_8 a3_9 a3_10 a3_11 a3_20 (.slice a3_A a3_l.length a3_k) a3_22 a3_23 a3_24 a3_25 a3_26 a3_27 a3_28 a3_29 a3_39 a3_40).toArray) rfl rfl rfl Bg2 (by kernel_rfl) (nle rfl) rfl rfl ?_; intro w5 hn hw; replace Bg0 := Bg0.grown hw Ng2_g0.symm; replace Bg1 := Bg1.grown hw Ng2_g1.symm; replace RB_a3_A := RB_a3_A.grown hw NRB_a3_A_g2; replace HS := HS.grown hw GEg2; replace Bg2 := hn; clear hw; clear hn))
 all_goals exact bodyPost_ret (results_cell1 rfl _ _ g2 36 (K3 a3_5 a3_6 a3_7 a3_8 a3_9 a3_10 a3_11 a3_20 (.slice a3_A a3_l.length a3_k) a3_22 a3_23 a3_24 a3_25 a3_26 a3_27 a3_28 a3_29 a3_39 a3_40) _ rfl Bg2 Try.underlying36 rfl (by kernel_rfl)) rfl ⟨_, _, _, _, _, _, _, _, _, _, _, _, _, _, _, _, _, _, _, _, _, rfl, ⟨hM_a3_20, hp_a3_5, Wa3_6, Wa3_7, Wa3_8, Wa3_9, Wa3_10, Wa3_11, Wa3_39, Wa3_40⟩, hl_a3_A, hk_a3_A, RB_a3_A, hF_a3_A, ⟨fun _ => hR_a3_, fun h_ => absurd h_ (by decide)⟩, HS.out⟩
theorem nextS3_3 (c5 c6 c7 c8 c9 c10 c11 c20 c22 c23 c24 c25 c26 c27 c28 c29 c39 c40 : Int) (A21 : Option Addr) (k21 : Nat) (l21 : List S90) (g_0 g_1 g_2 g_3 g_4 g_5 g_6 g_7 at_ : Int) (g_8 g_9 : Bool) (hc : G3 c5 c6 c7 c8 c9 c10 c11 c20 c22 c23 c24 c25 c26 c27 c28 c29 c39 c40 l21) (Wg_6 : W64 g_6) (w : World) (hr21 : RB w A21 l21) (hk21 : l21.length ≤ k21) (hL21 : l21.length < 1000000) :
  Calls Try.prog 16 #[.agg (K3 c5 c6 c7 c8 c9 c10 c11 c20 (.slice A21 l21.length k21) c22 c23 c24 c25 c26 c27 c28 c29 c39 c40).toArray, .agg #[.int .i64 3, .int .u64 g_0, .int .u64 g_1, .int .u64 g_2, .int .u64 g_3, .int .u64 g_4, .int .u64 g_5, .int .u64 g_6, .int .u64 g_7, .bool g_8, .bool g_9, .int .u64 at_]] w fun e w' => S3 A21 l21 (fun x y => ((3 : Int) = 2 ∨ (3 : Int) = 3 ∨ (3 : Int) = 4 → x ≤ uWin c20 l21 c22 c29) ∧ ((3 : Int) = 5 → uWin c20 l21 c22 c29 ≤ x)) w e w' := by
 have hu36 := Try.underlying36
 have hu40 := Try.underlying40
 have hu53 := Try.underlying53
 obtain ⟨hM_c20, hp_c5, Wc6, Wc7, Wc8, Wc9, Wc10, Wc11, Wc39, Wc40⟩ := hc
 have Wc22 := hM_c20.hm; have Wc23 := hM_c20.hmat; have Wc24 := hM_c20.hf; have Wc25 := hM_c20.ht; have Wc26 := hM_c20.hr; have Wc27 := hM_c20.hp; have Wc28 := hM_c20.hs; have Wc29 := hM_c20.h9
 have HS := Since.refl w
 go_enter Try.func16, Try.ntmps16
 go_wp2_with (first | (refine seg_new rfl (N := 2) rfl (K3 c5 c6 c7 c8 c9 c10 c11 c20 (.slice A21 l21.length k21) c22 c23 c24 c25 c26 c27 c28 c29 c39 c40) 36 ?hr ?_; (case hr => rfl); intro g0 hg w1 hn hl; have GEg0 := ge_new HS hg; clear hg; replace HS := HS.below hl; have Bg0 := hn; clear hl hn) | (refine seg_new rfl (N := 3) rfl [.int .i64 3, .int .u64 g_0, .int .u64 g_1, .int .u64 g_2, .int .u64 g_3, .int .u64 g_4, .int .u64 g_5, .int .u64 g_6, .int .u64 g_7, .bool g_8, .bool g_9, .int .u64 at_] 53 ?hr ?_; (case hr => rfl); intro g1 hg w2 hn hl; have Ng1_g0 := ne_new Bg0 hg; have GEg1 := ge_new HS hg; clear hg; replace Bg0 := Bg0.below hl; replace HS := HS.below hl; have Bg1 := hn; clear hl hn) | (refine seg_new rfl (N := 4) rfl K0 36 ?hr ?_; (case hr => rfl); intro g2 hg w3 hn hl; have Ng2_g0 := ne_new Bg0 hg; have Ng2_g1 := ne_new Bg1 hg; have GEg2 := ge_new HS hg; clear hg; replace Bg0 := Bg0.below hl; replace Bg1 := Bg1.below hl; replace HS := HS.below hl; have Bg2 := hn; clear hl hn; have kg1_0 := Bg1.at 0 rfl; have kg1_1 := Bg1.at 1 rfl; have kg1_2 := Bg1.at 2 rfl; have kg1_7 := Bg1.at 7 rfl; have kg1_11 := Bg1.at 11 rfl) | (refine seg_load rfl (N := 27) rfl 36 (.tmp 2) rfl g0 0 (K3 c5 c6 c7 c8 c9 c10 c11 c20 (.slice A21 l21.length k21) c22 c23 c24 c25 c26 c27 c28 c29 c39 c40) rfl Bg0 rfl Try.underlying36 rfl (by kernel_rfl) ?_) | ((go_at_call 37); (with_reducible refine (markS3 c5 c6 c7 c8 c9 c10 c11 c20 c22 c23 c24 c25 c26 c27 c28 c29 c39 c40 A21 k21 l21 g_1 at_ g_0 g_6 ⟨hM_c20, hp_c5, Wc6, Wc7, Wc8, Wc9, Wc10, Wc11, Wc39, Wc40⟩ Wg_6 _ (hr21.below HS.out) hk21 hL21).mono ?_); rintro e w4 ⟨a3_5, a3_6, a3_7, a3_8, a3_9, a3_10, a3_11, a3_20, a3_22, a3_23, a3_24, a3_25, a3_26, a3_27, a3_28, a3_29, a3_39, a3_40, a3_A, a3_k, a3_l, rfl, ⟨hM_a3_20, hp_a3_5, Wa3_6, Wa3_7, Wa3_8, Wa3_9, Wa3_10, Wa3_11, Wa3_39, Wa3_40⟩, hl_a3_A, hk_a3_A, RB_a3_A, hF_a3_A, hR_a3_, hl⟩; have NRB_a3_A_g0 := hF_a3_A.ne (NE_old hr21 GEg0) Bg0; have NRB_a3_A_g1 := hF_a3_A.ne (NE_old hr21 GEg1) Bg1; have NRB_a3_A_g2 := hF_a3_A.ne (NE_old hr21 GEg2) Bg2; replace hF_a3_A := hF_a3_A.mono HS.le; have Wa3_22 := hM_a3_20.hm; have Wa3_23 := hM_a3_20.hmat; have Wa3_24 := hM_a3_20.hf; have Wa3_25 := hM_a3_20.ht; have Wa3_26 := hM_a3_20.hr; have Wa3_27 := hM_a3_20.hp; have Wa3_28 := hM_a3_20.hs; have Wa3_29 := hM_a3_20.h9; replace Bg0 := Bg0.below hl; replace Bg1 := Bg1.below hl; replace Bg2 := Bg2.below hl; replace HS := HS.below hl; clear hl; clear kg1_0 kg1_1 kg1_2 kg1_7 kg1_11) | (refine seg_store rfl rfl 36 (.tmp 4) (.tmp 39) rfl g2 0 (K3 a3_5 a3_6 a3_7 a3_8 a3_9 a3_10 a3_11 a3_20 (.slice a3_A a3_l.length a3_k) a3_22 a3_23 a3_24 a3_25 a3_26 a3_27 a3_28 a3_29 a3_39 a3_40) (K3 a3_5 a3_6 a3_7 a3_8 a3_9 a3_10 a3_11 a3_20 (.slice a3_A a3_l.length a3_k) a3_22 a3_23 a3_24 a3_25 a3_26 a3_27 a3_28 a3_29 a3_39 a3_40) (.agg (K3 a3_5 a3_6 a3_7 a3_8 a3_9 a3_10 a3_11 a3_20 (.slice a3_A a3_l.length a3_k) a3_22 a3_23 a3_24 a3_25 a3_26 a3_27 a3_28 a3_29 a3_39 a3_40).toArray) rfl rfl rfl Bg2 (by kernel_rfl) (nle rfl) rfl rfl ?_; intro w5 hn hw; replace Bg0 := Bg0.grown hw Ng2_g0.symm; replace Bg1 := Bg1.grown hw Ng2_g1.symm; replace RB_a3_A := RB_a3_A.grown hw NRB_a3_A_g2; replace HS := HS.grown hw GEg2; replace Bg2 := hn; clear hw; clear hn))
 all_goals exact bodyPost_ret (results_cell1 rfl _ _ g2 36 (K3 a3_5 a3_6 a3_7 a3_8 a3_9 a3_10 a3_11 a3_20 (.slice a3_A a3_l.length a3_k) a3_22 a3_23 a3_24 a3_25 a3_26 a3_27 a3_28 a3_29 a3_39 a3_40) _ rfl Bg2 Try.underlying36 rfl (by kernel_rfl)) rfl ⟨_, _, _, _, _, _, _, _, _, _, _, _, _, _, _, _, _, _, _, _, _, rfl, ⟨hM_a3_20, hp_a3_5, Wa3_6, Wa3_7, Wa3_8, Wa3_9, Wa3_10, Wa3_11, Wa3_39, Wa3_40⟩, hl_a3_A, hk_a3_A, RB_a3_A, hF_a3_A, ⟨fun _ => hR_a3_, fun h_ => absurd h_ (by decide)⟩, HS.out⟩
theorem nextS3_4 (c5 c6 c7 c8 c9 c10 c11 c20 c22 c23 c24 c25 c26 c27 c28 c29 c39 c40 : Int) (A21 : Option Addr) (k21 : Nat) (l21 : List S90) (g_0 g_1 g_2 g_3 g_4 g_5 g_6 g_7 at_ : Int) (g_8 g_9 : Bool) (hc : G3 c5 c6 c7 c8 c9 c10 c11 c20 c22 c23 c24 c25 c26 c27 c28 c29 c39 c40 l21)  (w : World) (hr21 : RB w A21 l21) (hk21 : l21.length ≤ k21) (hL21 : l21.length < 1000000) :
  Calls Try.prog 16 #[.agg (K3 c5 c6 c7 c8 c9 c10 c11 c20 (.slice A21 l21.length k21) c22 c23 c24 c25 c26 c27 c28 c29 c39 c40).toArray, .agg #[.int .i64 4, .int .u64 g_0, .int .u64 g_1, .int .u64 g_2, .int .u64 g_3, .int .u64 g_4, .int .u64 g_5, .int .u64 g_6, .int .u64 g_7, .bool g_8, .bool g_9, .int .u64 at_]] w fun e w' => S3 A21 l21 (fun x y => ((4 : Int) = 2 ∨ (4 : Int) = 3 ∨ (4 : Int) = 4 → x ≤ uWin c20 l21 c22 c29) ∧ ((4 : Int) = 5 → uWin c20 l21 c22 c29 ≤ x)) w e w' := by
 have hu36 := Try.underlying36
 have hu40 := Try.underlying40
 have hu53 := Try.underlying53
 obtain ⟨hM_c20, hp_c5, Wc6, Wc7, Wc8, Wc9, Wc10, Wc11, Wc39, Wc40⟩ := hc
 have Wc22 := hM_c20.hm; have Wc23 := hM_c20.hmat; have Wc24 := hM_c20.hf; have Wc25 := hM_c20.ht; have Wc26 := hM_c20.hr; have Wc27 := hM_c20.hp; have Wc28 := hM_c20.hs; have Wc29 := hM_c20.h9
 have HS := Since.refl w
 go_enter Try.func16, Try.ntmps16
 go_wp2_with (first | (refine seg_new rfl (N := 2) rfl (K3 c5 c6 c7 c8 c9 c10 c11 c20 (.slice A21 l21.length k21) c22 c23 c24 c25 c26 c27 c28 c29 c39 c40) 36 ?hr ?_; (case hr => rfl); intro g0 hg w1 hn hl; have GEg0 := ge_new HS hg; clear hg; replace HS := HS.below hl; have Bg0 := hn; clear hl hn) | (refine seg_new rfl (N := 3) rfl [.int .i64 4, .int .u64 g_0, .int .u64 g_1, .int .u64 g_2, .int .u64 g_3, .int .u64 g_4, .int .u64 g_5, .int .u64 g_6, .int .u64 g_7, .bool g_8, .bool g_9, .int .u64 at_] 53 ?hr ?_; (case hr => rfl); intro g1 hg w2 hn hl; have Ng1_g0 := ne_new Bg0 hg; have GEg1 := ge_new HS hg; clear hg; replace Bg0 := Bg0.below hl; replace HS := HS.below hl; have Bg1 := hn; clear hl hn) | (refine seg_new rfl (N := 4) rfl K0 36 ?hr ?_; (case hr => rfl); intro g2 hg w3 hn hl; have Ng2_g0 := ne_new Bg0 hg; have Ng2_g1 := ne_new Bg1 hg; have GEg2 := ge_new HS hg; clear hg; replace Bg0 := Bg0.below hl; replace Bg1 := Bg1.below hl; replace HS := HS.below hl; have Bg2 := hn; clear hl hn; have kg1_0 := Bg1.at 0 rfl; have kg1_7 := Bg1.at 7 rfl) | (refine seg_load rfl (N := 42) rfl 36 (.tmp 2) rfl g0 0 (K3 c5 c6 c7 c8 c9 c10 c11 c20 (.slice A21 l21.length k21) c22 c23 c24 c25 c26 c27 c28 c29 c39 c40) rfl Bg0 rfl Try.underlying36 rfl (by kernel_rfl) ?_) | ((go_at_call 38); (with_reducible refine (collS3 c5 c6 c7 c8 c9 c10 c11 c20 c22 c23 c24 c25 c26 c27 c28 c29 c39 c40 A21 k21 l21 g_6 ⟨hM_c20, hp_c5, Wc6, Wc7, Wc8, Wc9, Wc10, Wc11, Wc39, Wc40⟩ _ (hr21.below HS.out) hk21 hL21).mono ?_); rintro e w4 ⟨a3_5, a3_6, a3_7, a3_8, a3_9, a3_10, a3_11, a3_20, a3_22, a3_23, a3_24, a3_25, a3_26, a3_27, a3_28, a3_29, a3_39, a3_40, a3_A, a3_k, a3_l, rfl, ⟨hM_a3_20, hp_a3_5, Wa3_6, Wa3_7, Wa3_8, Wa3_9, Wa3_10, Wa3_11, Wa3_39, Wa3_40⟩, hl_a3_A, hk_a3_A, RB_a3_A, hF_a3_A, hR_a3_, hl⟩; have NRB_a3_A_g0 := hF_a3_A.ne (NE_old hr21 GEg0) Bg0; have NRB_a3_A_g1 := hF_a3_A.ne (NE_old hr21 GEg1) Bg1; have NRB_a3_A_g2 := hF_a3_A.ne (NE_old hr21 GEg2) Bg2; replace hF_a3_A := hF_a3_A.mono HS.le; have Wa3_22 := hM_a3_20.hm; have Wa3_23 := hM_a3_20.hmat; have Wa3_24 := hM_a3_20.hf; have Wa3_25 := hM_a3_20.ht; have Wa3_26 := hM_a3_20.hr; have Wa3_27 := hM_a3_20.hp; have Wa3_28 := hM_a3_20.hs; have Wa3_29 := hM_a3_20.h9; replace Bg0 := Bg0.below hl; replace Bg1 := Bg1.below hl; replace Bg2 := Bg2.below hl; replace HS := HS.below hl; clear hl; clear kg1_0 kg1_7) | (refine seg_store rfl rfl 36 (.tmp 4) (.tmp 46) rfl g2 0 (K3 a3_5 a3_6 a3_7 a3_8 a3_9 a3_10 a3_11 a3_20 (.slice a3_A a3_l.length a3_k) a3_22 a3_23 a3_24 a3_25 a3_26 a3_27 a3_28 a3_29 a3_39 a3_40) (K3 a3_5 a3_6 a3_7 a3_8 a3_9 a3_10 a3_11 a3_20 (.slice a3_A a3_l.length a3_k) a3_22 a3_23 a3_24 a3_25 a3_26 a3_27 a3_28 a3_29 a3_39 a3_40) (.agg (K3 a3_5 a3_6 a3_7 a3_8 a3_9 a3_10 a3_11 a3_20 (.slice a3_A a3_l.length a3_k) a3_22 a3_23 a3_24 a3_25 a3_26 a3_27 a3_28 a3_29 a3_39 a3_40).toArray) rfl rfl rfl Bg2 (by kernel_rfl) (nle rfl) rfl rfl ?_; intro w5 hn hw; replace Bg0 := Bg0.grown hw Ng2_g0.symm; replace Bg1 := Bg1.grown hw Ng2_g1.symm; replace RB_a3_A := RB_a3_A.grown hw NRB_a3_A_g2; replace HS := HS.grown hw GEg2; replace Bg2 := hn; clear hw; clear hn))
 all_goals exact bodyPost_ret (results_cell1 rfl _ _ g2 36 (K3 a3_5 a3_6 a3_7 a3_8 a3_9 a3_10 a3_11 a3_20 (.slice a3_A a3_l.length a3_k) a3_22 a3_23 a3_24 a3_25 a3_26 a3_27 a3_28 a3_29 a3_39 a3_40) _ rfl Bg2 Try.underlying36 rfl (by kernel_rfl)) rfl ⟨_, _, _, _, _, _, _, _, _, _, _, _, _, _, _, _, _, _, _, _, _, rfl, ⟨hM_a3_20, hp_a3_5, Wa3_6, Wa3_7, Wa3_8, Wa3_9, Wa3_10, Wa3_11, Wa3_39, Wa3_40⟩, hl_a3_A, hk_a3_A, RB_a3_A, hF_a3_A, ⟨fun _ => hR_a3_, fun h_ => absurd h_ (by decide)⟩, HS.out⟩
theorem nextS3_5 (c5 c6 c7 c8 c9 c10 c11 c20 c22 c23 c24 c25 c26 c27 c28 c29 c39 c40 : Int) (A21 : Option Addr) (k21 : Nat) (l21 : List S90) (g_0 g_1 g_2 g_3 g_4 g_5 g_6 g_7 at_ : Int) (g_8 g_9 : Bool) (hc : G3 c5 c6 c7 c8 c9 c10 c11 c20 c22 c23 c24 c25 c26 c27 c28 c29 c39 c40 l21)  (w : World) (hr21 : RB w A21 l21) (hk21 : l21.length ≤ k21) (hL21 : l21.length < 1000000) :
  Calls Try.prog 16 #[.agg (K3 c5 c6 c7 c8 c9 c10 c11 c20 (.slice A21 l21.length k21) c22 c23 c24 c25 c26 c27 c28 c29 c39 c40).toArray, .agg #[.int .i64 5, .int .u64 g_0, .int .u64 g_1, .int .u64 g_2, .int .u64 g_3, .int .u64 g_4, .int .u64 g_5, .int .u64 g_6, .int .u64 g_7, .bool g_8, .bool g_9, .int .u64 at_]] w fun e w' => S3 A21 l21 (fun x y => ((5 : Int) = 2 ∨ (5 : Int) = 3 ∨ (5 : Int) = 4 → x ≤ uWin c20 l21 c22 c29) ∧ ((5 : Int) = 5 → uWin c20 l21 c22 c29 ≤ x)) w e w' := by
 have hu36 := Try.underlying36
 have hu53 := Try.underlying53
 obtain ⟨hM_c20, hp_c5, Wc6, Wc7, Wc8, Wc9, Wc10, Wc11, Wc39, Wc40⟩ := hc
 have Wc22 := hM_c20.hm; have Wc23 := hM_c20.hmat; have Wc24 := hM_c20.hf; have Wc25 := hM_c20.ht; have Wc26 := hM_c20.hr; have Wc27 := hM_c20.hp; have Wc28 := hM_c20.hs; have Wc29 := hM_c20.h9
 have HS := Since.refl w
 go_enter Try.func16, Try.ntmps16
 go_wp2_with (first | (refine seg_new rfl (N := 2) rfl (K3 c5 c6 c7 c8 c9 c10 c11 c20 (.slice A21 l21.length k21) c22 c23 c24 c25 c26 c27 c28 c29 c39 c40) 36 ?hr ?_; (case hr => rfl); intro g0 hg w1 hn hl; have GEg0 := ge_new HS hg; clear hg; replace HS := HS.below hl; have Bg0 := hn; clear hl hn) | (refine seg_new rfl (N := 3) rfl [.int .i64 5, .int .u64 g_0, .int .u64 g_1, .int .u64 g_2, .int .u64 g_3, .int .u64 g_4, .int .u64 g_5, .int .u64 g_6, .int .u64 g_7, .bool g_8, .bool g_9, .int .u64 at_] 53 ?hr ?_; (case hr => rfl); intro g1 hg w2 hn hl; have Ng1_g0 := ne_new Bg0 hg; have GEg1 := ge_new HS hg; clear hg; replace Bg0 := Bg0.below hl; replace HS := HS.below hl; have Bg1 := hn; clear hl hn) | (refine seg_new rfl (N := 4) rfl K0 36 ?hr ?_; (case hr => rfl); intro g2 hg w3 hn hl; have Ng2_g0 := ne_new Bg0 hg; have Ng2_g1 := ne_new Bg1 hg; have GEg2 := ge_new HS hg; clear hg; replace Bg0 := Bg0.below hl; replace Bg1 := Bg1.below hl; replace HS := HS.below hl; have Bg2 := hn; clear hl hn; have kg1_0 := Bg1.at 0 rfl) | (refine seg_load rfl (N := 49) rfl 36 (.tmp 2) rfl g0 0 (K3 c5 c6 c7 c8 c9 c10 c11 c20 (.slice A21 l21.length k21) c22 c23 c24 c25 c26 c27 c28 c29 c39 c40) rfl Bg0 rfl Try.underlying36 rfl (by kernel_rfl) ?_) | ((go_at_call 18); (with_reducible refine (undoS3 c5 c6 c7 c8 c9 c10 c11 c20 c22 c23 c24 c25 c26 c27 c28 c29 c39 c40 A21 k21 l21 ⟨hM_c20, hp_c5, Wc6, Wc7, Wc8, Wc9, Wc10, Wc11, Wc39, Wc40⟩ _ (hr21.below HS.out) hk21 hL21).mono ?_); rintro e w4 ⟨a3_5, a3_6, a3_7, a3_8, a3_9, a3_10, a3_11, a3_20, a3_22, a3_23, a3_24, a3_25, a3_26, a3_27, a3_28, a3_29, a3_39, a3_40, a3_A, a3_k, a3_l, rfl, ⟨hM_a3_20, hp_a3_5, Wa3_6, Wa3_7, Wa3_8, Wa3_9, Wa3_10, Wa3_11, Wa3_39, Wa3_40⟩, hl_a3_A, hk_a3_A, RB_a3_A, hF_a3_A, hR_a3_, hl⟩; have NRB_a3_A_g0 := hF_a3_A.ne (NE_old hr21 GEg0) Bg0; have NRB_a3_A_g1 := hF_a3_A.ne (NE_old hr21 GEg1) Bg1; have NRB_a3_A_g2 := hF_a3_A.ne (NE_old hr21 GEg2) Bg2; replace hF_a3_A := hF_a3_A.mono HS.le; have Wa3_22 := hM_a3_20.hm; have Wa3_23 := hM_a3_20.hmat; have Wa3_24 := hM_a3_20.hf; have Wa3_25 := hM_a3_20.ht; have Wa3_26 := hM_a3_20.hr; have Wa3_27 := hM_a3_20.hp; have Wa3_28 := hM_a3_20.hs; have Wa3_29 := hM_a3_20.h9; replace Bg0 := Bg0.below hl; replace Bg1 := Bg1.below hl; replace Bg2 := Bg2.below hl; replace HS := HS.below hl; clear hl; clear kg1_0) | (refine seg_store rfl rfl 36 (.tmp 4) (.tmp 50) rfl g2 0 (K3 a3_5 a3_6 a3_7 a3_8 a3_9 a3_10 a3_11 a3_20 (.slice a3_A a3_l.length a3_k) a3_22 a3_23 a3_24 a3_25 a3_26 a3_27 a3_28 a3_29 a3_39 a3_40) (K3 a3_5 a3_6 a3_7 a3_8 a3_9 a3_10 a3_11 a3_20 (.slice a3_A a3_l.length a3_k) a3_22 a3_23 a3_24 a3_25 a3_26 a3_27 a3_28 a3_29 a3_39 a3_40) (.agg (K3 a3_5 a3_6 a3_7 a3_8 a3_9 a3_10 a3_11 a3_20 (.slice a3_A a3_l.length a3_k) a3_22 a3_23 a3_24 a3_25 a3_26 a3_27 a3_28 a3_29 a3_39 a3_40).toArray) rfl rfl rfl Bg2 (by kernel_rfl) (nle rfl) rfl rfl ?_; intro w5 hn hw; replace Bg0 := Bg0.grown hw Ng2_g0.symm; replace Bg1 := Bg1.grown hw Ng2_g1.symm; replace RB_a3_A := RB_a3_A.grown hw NRB_a3_A_g2; replace HS := HS.grown hw GEg2; replace Bg2 := hn; clear hw; clear hn))
 all_goals exact bodyPost_ret (results_cell1 rfl _ _ g2 36 (K3 a3_5 a3_6 a3_7 a3_8 a3_9 a3_10 a3_11 a3_20 (.slice a3_A a3_l.length a3_k) a3_22 a3_23 a3_24 a3_25 a3_26 a3_27 a3_28 a3_29 a3_39 a3_40) _ rfl Bg2 Try.underlying36 rfl (by kernel_rfl)) rfl ⟨_, _, _, _, _, _, _, _, _, _, _, _, _, _, _, _, _, _, _, _, _, rfl, ⟨hM_a3_20, hp_a3_5, Wa3_6, Wa3_7, Wa3_8, Wa3_9, Wa3_10, Wa3_11, Wa3_39, Wa3_40⟩, hl_a3_A, hk_a3_A, RB_a3_A, hF_a3_A, ⟨fun h_ => absurd h_ (by decide), fun _ => hR_a3_⟩, HS.out⟩
theorem nextS3_0 (c5 c6 c7 c8 c9 c10 c11 c20 c22 c23 c24 c25 c26 c27 c28 c29 c39 c40 : Int) (A21 : Option Addr) (k21 : Nat) (l21 : List S90) (e0 g_0 g_1 g_2 g_3 g_4 g_5 g_6 g_7 at_ : Int) (g_8 g_9 : Bool) (hc : G3 c5 c6 c7 c8 c9 c10 c11 c20 c22 c23 c24 c25 c26 c27 c28 c29 c39 c40 l21)  (w : World) (hr21 : RB w A21 l21) (hk21 : l21.length ≤ k21) (hL21 : l21.length < 1000000) (h0 : (e0 == 1) = false) (h1 : (e0 == 2) = false) (h2 : (e0 == 3) = false) (h3 : (e0 == 4) = false) (h4 : (e0 == 5) = false) :
  Calls Try.prog 16 #[.agg (K3 c5 c6 c7 c8 c9 c10 c11 c20 (.slice A21 l21.length k21) c22 c23 c24 c25 c26 c27 c28 c29 c39 c40).toArray, .agg #[.int .i64 e0, .int .u64 g_0, .int .u64 g_1, .int .u64 g_2, .int .u64 g_3, .int .u64 g_4, .int .u64 g_5, .int .u64 g_6, .int .u64 g_7, .bool g_8, .bool g_9, .int .u64 at_]] w fun e w' => S3 A21 l21 (fun x y => (e0 = 2 ∨ e0 = 3 ∨ e0 = 4 → x ≤ uWin c20 l21 c22 c29) ∧ (e0 = 5 → uWin c20 l21 c22 c29 ≤ x)) w e w' := by
 have hu36 := Try.underlying36
 have hu53 := Try.underlying53
 obtain ⟨hM_c20, hp_c5, Wc6, Wc7, Wc8, Wc9, Wc10, Wc11, Wc39, Wc40⟩ := hc
 have Wc22 := hM_c20.hm; have Wc23 := hM_c20.hmat; have Wc24 := hM_c20.hf; have Wc25 := hM_c20.ht; have Wc26 := hM_c20.hr; have Wc27 := hM_c20.hp; have Wc28 := hM_c20.hs; have Wc29 := hM_c20.h9
 have HS := Since.refl w
 go_enter Try.func16, Try.ntmps16
 go_wp2_with (first | (refine seg_new rfl (N := 2) rfl (K3 c5 c6 c7 c8 c9 c10 c11 c20 (.slice A21 l21.length k21) c22 c23 c24 c25 c26 c27 c28 c29 c39 c40) 36 ?hr ?_; (case hr => rfl); intro g0 hg w1 hn hl; have GEg0 := ge_new HS hg; clear hg; replace HS := HS.below hl; have Bg0 := hn; clear hl hn) | (refine seg_new rfl (N := 3) rfl [.int .i64 e0, .int .u64 g_0, .int .u64 g_1, .int .u64 g_2, .int .u64 g_3, .int .u64 g_4, .int .u64 g_5, .int .u64 g_6, .int .u64 g_7, .bool g_8, .bool g_9, .int .u64 at_] 53 ?hr ?_; (case hr => rfl); intro g1 hg w2 hn hl; have Ng1_g0 := ne_new Bg0 hg; have GEg1 := ge_new HS hg; clear hg; replace Bg0 := Bg0.below hl; replace HS := HS.below hl; have Bg1 := hn; clear hl hn) | (refine seg_new rfl (N := 4) rfl K0 36 ?hr ?_; (case hr => rfl); intro g2 hg w3 hn hl; have Ng2_g0 := ne_new Bg0 hg; have Ng2_g1 := ne_new Bg1 hg; have GEg2 := ge_new HS hg; clear hg; replace Bg0 := Bg0.below hl; replace Bg1 := Bg1.below hl; replace HS := HS.below hl; have Bg2 := hn; clear hl hn; have kg1_0 := Bg1.at 0 rfl) | (refine seg_load rfl (N := 51) rfl 36 (.tmp 2) rfl g0 0 (K3 c5 c6 c7 c8 c9 c10 c11 c20 (.slice A21 l21.length k21) c22 c23 c24 c25 c26 c27 c28 c29 c39 c40) rfl Bg0 rfl Try.underlying36 rfl (by kernel_rfl) ?_) | (refine seg_store rfl rfl 36 (.tmp 4) (.tmp 51) rfl g2 0 (K3 c5 c6 c7 c8 c9 c10 c11 c20 (.slice A21 l21.length k21) c22 c23 c24 c25 c26 c27 c28 c29 c39 c40) (K3 c5 c6 c7 c8 c9 c10 c11 c20 (.slice A21 l21.length k21) c22 c23 c24 c25 c26 c27 c28 c29 c39 c40) (.agg (K3 c5 c6 c7 c8 c9 c10 c11 c20 (.slice A21 l21.length k21) c22 c23 c24 c25 c26 c27 c28 c29 c39 c40).toArray) rfl rfl rfl Bg2 (by kernel_rfl) (nle rfl) rfl rfl ?_; intro w4 hn hw; replace Bg0 := Bg0.grown hw Ng2_g0.symm; replace Bg1 := Bg1.grown hw Ng2_g1.symm; replace HS := HS.grown hw GEg2; replace Bg2 := hn; clear hw; clear kg1_0; clear hn))
 all_goals exact bodyPost_ret (results_cell1 rfl _ _ g2 36 (K3 c5 c6 c7 c8 c9 c10 c11 c20 (.slice A21 l21.length k21) c22 c23 c24 c25 c26 c27 c28 c29 c39 c40) _ rfl Bg2 Try.underlying36 rfl (by kernel_rfl)) rfl ⟨_, _, _, _, _, _, _, _, _, _, _, _, _, _, _, _, _, _, _, _, _, rfl, ⟨hM_c20, hp_c5, Wc6, Wc7, Wc8, Wc9, Wc10, Wc11, Wc39, Wc40⟩, (Nat.le_succ _), hk21, (hr21.below HS.out), (.inl ⟨rfl, rfl⟩), ⟨fun _ => Int.le_refl _, fun _ => Int.le_refl _⟩, HS.out⟩
theorem nextS3 (c5 c6 c7 c8 c9 c10 c11 c20 c22 c23 c24 c25 c26 c27 c28 c29 c39 c40 : Int) (A21 : Option Addr) (k21 : Nat) (l21 : List S90) (e0 g_0 g_1 g_2 g_3 g_4 g_5 g_6 g_7 at_ : Int) (g_8 g_9 : Bool) (hc : G3 c5 c6 c7 c8 c9 c10 c11 c20 c22 c23 c24 c25 c26 c27 c28 c29 c39 c40 l21) (Wg_0 : W64 g_0) (Wg_1 : W64 g_1) (Wg_2 : W64 g_2) (Wg_3 : W64 g_3) (Wg_4 : W64 g_4) (Wg_5 : W64 g_5) (Wg_6 : W64 g_6) (Wg_7 : W64 g_7) (Wat_ : W64 at_) (w : World) (hr21 : RB w A21 l21) (hk21 : l21.length ≤ k21) (hL21 : l21.length < 1000000) :
  Calls Try.prog 16 #[.agg (K3 c5 c6 c7 c8 c9 c10 c11 c20 (.slice A21 l21.length k21) c22 c23 c24 c25 c26 c27 c28 c29 c39 c40).toArray, .agg #[.int .i64 e0, .int .u64 g_0, .int .u64 g_1, .int .u64 g_2, .int .u64 g_3, .int .u64 g_4, .int .u64 g_5, .int .u64 g_6, .int .u64 g_7, .bool g_8, .bool g_9, .int .u64 at_]] w fun e w' => S3 A21 l21 (fun x y => (e0 = 2 ∨ e0 = 3 ∨ e0 = 4 → x ≤ uWin c20 l21 c22 c29) ∧ (e0 = 5 → uWin c20 l21 c22 c29 ≤ x)) w e w' := by
 by_cases z1 : e0 = 1
 ·subst z1
  exact nextS3_1 c5 c6 c7 c8 c9 c10 c11 c20 c22 c23 c24 c25 c26 c27 c28 c29 c39 c40 A21 k21 l21 g_0 g_1 g_2 g_3 g_4 g_5 g_6 g_7 at_ g_8 g_9 hc Wg_0 Wg_5 Wg_7 w hr21 hk21 hL21
 by_cases z2 : e0 = 2
 ·subst z2
  exact nextS3_2 c5 c6 c7 c8 c9 c10 c11 c20 c22 c23 c24 c25 c26 c27 c28 c29 c39 c40 A21 k21 l21 g_0 g_1 g_2 g_3 g_4 g_5 g_6 g_7 at_ g_8 g_9 hc Wg_6 w hr21 hk21 hL21
 by_cases z3 : e0 = 3
 ·subst z3
  exact nextS3_3 c5 c6 c7 c8 c9 c10 c11 c20 c22 c23 c24 c25 c26 c27 c28 c29 c39 c40 A21 k21 l21 g_0 g_1 g_2 g_3 g_4 g_5 g_6 g_7 at_ g_8 g_9 hc Wg_6 w hr21 hk21 hL21
 by_cases z4 : e0 = 4
 ·subst z4
  exact nextS3_4 c5 c6 c7 c8 c9 c10 c11 c20 c22 c23 c24 c25 c26 c27 c28 c29 c39 c40 A21 k21 l21 g_0 g_1 g_2 g_3 g_4 g_5 g_6 g_7 at_ g_8 g_9 hc  w hr21 hk21 hL21
 by_cases z5 : e0 = 5
 ·subst z5
  exact nextS3_5 c5 c6 c7 c8 c9 c10 c11 c20 c22 c23 c24 c25 c26 c27 c28 c29 c39 c40 A21 k21 l21 g_0 g_1 g_2 g_3 g_4 g_5 g_6 g_7 at_ g_8 g_9 hc  w hr21 hk21 hL21
 exact nextS3_0 c5 c6 c7 c8 c9 c10 c11 c20 c22 c23 c24 c25 c26 c27 c28 c29 c39 c40 A21 k21 l21 e0 g_0 g_1 g_2 g_3 g_4 g_5 g_6 g_7 at_ g_8 g_9 hc  w hr21 hk21 hL21 (beq_eq_false_iff_ne.mpr z1) (beq_eq_false_iff_ne.mpr z2) (beq_eq_false_iff_ne.mpr z3) (beq_eq_false_iff_ne.mpr z4) (beq_eq_false_iff_ne.mpr z5)
end Go.Proofs.Ytpgffmnbdggpnaa.PCv
end
