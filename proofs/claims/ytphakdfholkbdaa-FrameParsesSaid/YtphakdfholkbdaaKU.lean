/- Several texts of this claim in one: FrS FrU FrV -/
import Derived.Test.YtphakdfholkbdaaKH
import Derived.Test.YtphakdfholkbdaaKD
import Derived.Test.YtphakdfholkbdaaKS
import Derived.Test.YtphakdfholkbdaaKA
import Derived.Test.YtphakdfholkbdaaKT
import Derived.Test.YtphakdfholkbdaaKQ
section
namespace Go.Proofs.Ytphakdfholkbdaa
open Go.Proofs.Ytphakdfholkbdaa.PFra Go.RowKit Go.Proofs.YtphakdfholkbdaaW.PrintWords Go.Proofs.YtphakdfholkbdaaW.PrintLast Go.Proofs.YtphakdfholkbdaaW.PrintMore
set_option maxRecDepth 100000
set_option maxHeartbeats 4000000
set_option linter.unusedVariables false
set_option linter.unusedSimpArgs false
theorem ssame_loop (l : List S47) (hl : l.length < 1000000) : ∀ d K i : Nat, i + d = l.length → d < K → wigwagref05_Spans.l0 K l l (i : Int) = some true := by
 intro d
 induction d with
 | zero =>
  intro K i hi hk
  obtain ⟨k, rfl⟩ : ∃ k, K = k + 1 := ⟨K - 1, by omega⟩
  rw [wigwagref05_Spans.l0, if_neg (by omega)]
 | succ d ih =>
  intro K i hi hk
  obtain ⟨k, rfl⟩ : ∃ k, K = k + 1 := ⟨K - 1, by omega⟩
  have hn : wrap64 ((i : Int) + 1) = ((i + 1 : Nat) : Int) := by unfold wrap64; omega
  rw [wigwagref05_Spans.l0, if_pos (by omega), if_pos (by omega), if_pos (by omega), if_neg (by simp), hn]
  exact ih k (i + 1) (by omega) (by omega)
theorem ssame {l : List S47} {K : Nat} (hl : l.length < 1000000) (hk : l.length < K) : wigwagref05_Spans.f K l l = some true := by
 unfold wigwagref05_Spans.f
 rw [if_pos rfl]
 exact ssame_loop l hl l.length K 0 (by omega) (by omega)
theorem same_refl {K : Nat} (x : S27) (hl : x.f9.length < 1000000) (hk : x.f9.length < K) : wigwagref05_Same.f K x.f0 x.f1 x.f2 x.f3 x.f4 x.f5 x.f6 x.f7 x.f8 x.f9 x.f0 x.f1 x.f2 x.f3 x.f4 x.f5 x.f6 x.f7 x.f8 x.f9 = some true := by
 unfold wigwagref05_Same.f
 rw [ssame hl hk]
 simp
theorem all_same_loop (l : List S27) (hl : l.length < 1000000) (M : Nat) (hM : M < 1000000) (hx : ∀ x ∈ l, x.f9.length ≤ M) : ∀ d K i : Nat, i + d = l.length → d + M + 1 < K → wigwagref05_SameAll.l0 K l l (i : Int) = some true := by
 intro d
 induction d with
 | zero =>
  intro K i hi hk
  obtain ⟨k, rfl⟩ : ∃ k, K = k + 1 := ⟨K - 1, by omega⟩
  rw [wigwagref05_SameAll.l0, if_neg (by omega)]
 | succ d ih =>
  intro K i hi hk
  obtain ⟨k, rfl⟩ : ∃ k, K = k + 1 := ⟨K - 1, by omega⟩
  have hn : wrap64 ((i : Int) + 1) = ((i + 1 : Nat) : Int) := by unfold wrap64; omega
  have hlt : i < l.length := by omega
  have hrd : rd_T27 l (i : Int) = l[i] := by simp [rd_T27, List.getD, List.getElem?_eq_getElem hlt]
  have hm := hx _ (List.getElem_mem hlt)
  rw [wigwagref05_SameAll.l0, if_pos (by omega), if_pos (by omega), if_pos (by omega), hrd, same_refl l[i] (by omega) (by omega), Option.bind_some, if_pos rfl, hn]
  exact ih k (i + 1) (by omega) (by omega)
theorem all_same {l : List S27} {K M : Nat} (hl : l.length < 1000000) (hM : M < 1000000) (hx : ∀ x ∈ l, x.f9.length ≤ M) (hk : l.length + M + 1 < K) : wigwagref05_SameAll.f K l l = some true := by
 unfold wigwagref05_SameAll.f
 rw [if_pos rfl]
 exact all_same_loop l hl M hM hx l.length K 0 (by omega) hk
def uTake : Nat → List Int → Option (List Int × List Int)
 | 0, l => some ([], l)
 | n + 1, l => (uNum l).bind fun r => (uTake n r.2).map fun q => (r.1 :: q.1, q.2)
theorem uTake_some : ∀ (n : Nat) (l vs r : List Int), bytesOk l = true → uTake n l = some (vs, r) → vs.length = n ∧ (∀ v ∈ vs, 0 ≤ v ∧ v < 4611686018427387904) ∧ bytesOk r = true ∧ r.length ≤ l.length ∧ r = l.drop (l.length - r.length)
 | 0, l, vs, r, hb, h => by
  rw [uTake, Option.some.injEq, Prod.mk.injEq] at h
  obtain ⟨rfl, rfl⟩ := h
  exact ⟨rfl, fun v hv => absurd hv (by simp), hb, Nat.le_refl _, by simp⟩
 | n + 1, l, vs, r, hb, h => by
  rw [uTake] at h
  obtain ⟨⟨v, l'⟩, hN, h⟩ := Option.bind_eq_some_iff.1 h
  obtain ⟨⟨vs', r'⟩, hT, h⟩ := Option.map_eq_some_iff.1 h
  simp only [Prod.mk.injEq] at h
  obtain ⟨rfl, rfl⟩ := h
  obtain ⟨hv, hb', hlt, hdrop, -, hle, -⟩ := uNum_some hb hN
  obtain ⟨h1, h2, h3, h4, h5⟩ := uTake_some n l' vs' r' hb' hT
  refine ⟨by simp [h1], fun x hx => ?_, h3, by omega, ?_⟩
  ·rcases List.mem_cons.1 hx with rfl | hx
   ·exact hv
   ·exact h2 x hx
  ·have e : l'.length = l.length - uGetN l := by rw [hdrop, List.length_drop]
   have h6 : r' = (l.drop (uGetN l)).drop (l'.length - r'.length) := by rw [← hdrop]; exact h5
   rw [List.drop_drop] at h6
   conv => lhs; rw [h6]
   congr 1
   omega
theorem getR {l : List Int} (hb : bytesOk l = true) : wigwagref03_Get.f l = some (match uNum l with | some r => (r.1, (l.length : Int) - r.2.length, 0) | none => (0, 0, 30)) := by
 unfold wigwagref03_Get.f
 rw [if_pos hb]
 cases hN : uNum l with
 | none =>
  unfold uNum at hN
  rcases uGet_cases l with e | ⟨e, hle⟩
  ·rw [e]
  ·rw [e] at hN; simp at hN
 | some r =>
  obtain ⟨v, l'⟩ := r
  obtain ⟨_, _, _, hdrop, hv, hle, _⟩ := uNum_some hb hN
  unfold uNum at hN
  rcases uGet_cases l with e | ⟨e, hle⟩
  ·rw [e] at hN; simp at hN
  ·rw [e]
   simp only
   rw [hv, hdrop, List.length_drop]
   congr 2
   congr 1
   omega
theorem take_loop (l : List Int) (hb : bytesOk l = true) (hl : l.length < 1000000) (N : Nat) (hN : N < 1000) : ∀ d K i at_ : Nat, ∀ acc : List Int, i + d = N → d < K → at_ ≤ l.length → acc.length = i →
  wigwagref05_take.l0 K l (N : Int) acc (at_ : Int) (i : Int) = some (match uTake d (l.drop at_) with | some q => (acc ++ q.1, (l.length : Int) - q.2.length, true) | none => ([], 0, false)) := by
 intro d
 induction d with
 | zero =>
  intro K i at_ acc hi hk ha hacc
  obtain ⟨k, rfl⟩ : ∃ k, K = k + 1 := ⟨K - 1, by omega⟩
  rw [wigwagref05_take.l0, if_neg (by omega), uTake]
  simp only [List.append_nil, List.length_drop]
  congr 2
  congr 1
  omega
 | succ d ih =>
  intro K i at_ acc hi hk ha hacc
  obtain ⟨k, rfl⟩ : ∃ k, K = k + 1 := ⟨K - 1, by omega⟩
  have hbd : bytesOk (l.drop at_) = true := by
   unfold bytesOk at *
   rw [List.all_eq_true] at *
   exact fun x hx => hb x (List.mem_of_mem_drop hx)
  rw [wigwagref05_take.l0, if_pos (by omega), if_pos (by omega), if_pos (by omega), Int.toNat_natCast, getR hbd, uTake, Option.bind_some]
  cases hU : uNum (l.drop at_) with
  | none => simp
  | some r =>
   obtain ⟨v, l'⟩ := r
   obtain ⟨_, _, hlt, hdrop, _, hle, _⟩ := uNum_some hbd hU
   simp only [Option.bind_some, if_true]
   rw [if_pos (by omega)]
   have e1 : wrap64 ((at_ : Int) + (((l.drop at_).length : Int) - l'.length)) = ((at_ + uGetN (l.drop at_) : Nat) : Int) := by
    have : l'.length = (l.drop at_).length - uGetN (l.drop at_) := by
     conv => lhs; rw [hdrop]
     rw [List.length_drop]
    have h3 : (l.drop at_).length = l.length - at_ := List.length_drop
    unfold wrap64; omega
   have e2 : wrap64 ((i : Int) + 1) = ((i + 1 : Nat) : Int) := by unfold wrap64; omega
   have e3 : l.drop (at_ + uGetN (l.drop at_)) = l' := by rw [← List.drop_drop]; exact hdrop.symm
   have h3 : (l.drop at_).length = l.length - at_ := List.length_drop
   rw [e1, e2, ih k (i + 1) _ (acc ++ [v]) (by omega) (by omega) (by omega) (by simp [hacc]), e3]
   cases uTake d l' with
   | none => rfl
   | some q => simp
theorem take_eq {K : Nat} {l : List Int} {N : Nat} (hb : bytesOk l = true) (hl : l.length < 1000000) (hN : N < 1000) (hK : N < K) : wigwagref05_take.f K l (N : Int) = some (match uTake N l with | some q => (q.1, (l.length : Int) - q.2.length, true) | none => ([], 0, false)) := by
 unfold wigwagref05_take.f
 have := take_loop l hb hl N hN N K 0 0 [] (by omega) hK (Nat.zero_le _) rfl
 simpa using this
def sPairs : List Int → List S47 → Option (List S47)
 | g :: n :: r, x :: s => if g + 1 < x.f0 ∧ g + 1 + n + 1 ≤ x.f0 then sPairs r (⟨x.f0 - g - 1 - n - 1, x.f0 - g - 1⟩ :: x :: s) else none
 | [], s => some s
 | _, _ => none
def ackS : List Int → Option (List S47)
 | top :: n0 :: r => if n0 ≤ top then sPairs r [⟨top - n0, top + 1⟩] else none
 | _ => none
theorem two_more {l : List Int} {i m : Nat} (h : l.length = i + 2 * (m + 1)) : ∃ g n, l.drop i = g :: n :: l.drop (i + 2) ∧ l[i]? = some g ∧ l[i + 1]? = some n := by
 refine ⟨l[i], l[i + 1], ?_, List.getElem?_eq_getElem (by omega), List.getElem?_eq_getElem (by omega)⟩
 rw [List.drop_eq_getElem_cons (by omega), List.drop_eq_getElem_cons (by omega)]
theorem rd_at {l : List Int} {i : Nat} {x : Int} (h : l[i]? = some x) : rd l (i : Int) = x := by simp [rd, List.getD, h]
theorem acked_loop (l : List Int) (hl : l.length < 1000) (hv : ∀ v ∈ l, 0 ≤ v ∧ v < 4611686018427387904) : ∀ m K i : Nat, ∀ (x : S47) (s : List S47), l.length = i + 2 * m → m < K → 0 ≤ x.f0 → x.f0 ≤ 4611686018427387904 → s.length + m < 1000 →
  wigwagref05_acked.l0 K l (x :: s) (i : Int) = some (match sPairs (l.drop i) (x :: s) with | some q => (q, true) | none => ([], false)) := by
 intro m
 induction m with
 | zero =>
  intro K i x s hi hk h0 h1 hs
  obtain ⟨k, rfl⟩ : ∃ k, K = k + 1 := ⟨K - 1, by omega⟩
  rw [wigwagref05_acked.l0, if_neg (by omega), List.drop_eq_nil_of_le (by omega), sPairs]
 | succ m ih =>
  intro K i x s hi hk h0 h1 hs
  obtain ⟨k, rfl⟩ : ∃ k, K = k + 1 := ⟨K - 1, by omega⟩
  obtain ⟨g, n, hd, hg, hn⟩ := two_more hi
  have e2 : wrap64 ((i : Int) + 1) = ((i + 1 : Nat) : Int) := by unfold wrap64; omega
  have e3 : wrap64 ((i : Int) + 2) = ((i + 2 : Nat) : Int) := by unfold wrap64; omega
  have hgv := hv g (List.mem_of_getElem? hg)
  have hnv := hv n (List.mem_of_getElem? hn)
  have hx0 : rd_T47 (x :: s) 0 = x := rfl
  have w1 : IntKind.u64.wrap (g + 1) = g + 1 := w64 ⟨by omega, by omega⟩
  have w2 : IntKind.u64.wrap (g + 1 + n) = g + 1 + n := w64 ⟨by omega, by omega⟩
  have w3 : IntKind.u64.wrap (g + 1 + n + 1) = g + 1 + n + 1 := w64 ⟨by omega, by omega⟩
  rw [wigwagref05_acked.l0, if_pos (by omega), if_pos (by first | (simp; done) | (simp; omega)), if_pos (by omega), hx0, e2, rd_at hg, rd_at hn, w1, w2, w3, hd, sPairs]
  by_cases c1 : g + 1 ≥ x.f0
  ·rw [if_pos c1, if_neg (by omega)]
  ·rw [if_neg c1, if_pos (by omega), if_pos (by omega)]
   by_cases c2 : g + 1 + n + 1 > x.f0
   ·rw [if_pos c2, if_neg (by omega)]
   ·have w4 : IntKind.u64.wrap (x.f0 - g) = x.f0 - g := w64 ⟨by omega, by omega⟩
    have w5 : IntKind.u64.wrap (x.f0 - g - 1) = x.f0 - g - 1 := w64 ⟨by omega, by omega⟩
    have w6 : IntKind.u64.wrap (x.f0 - g - 1 - n) = x.f0 - g - 1 - n := w64 ⟨by omega, by omega⟩
    have w7 : IntKind.u64.wrap (x.f0 - g - 1 - n - 1) = x.f0 - g - 1 - n - 1 := w64 ⟨by omega, by omega⟩
    rw [if_neg c2, if_pos ⟨by omega, by omega⟩, w4, w5, w6, w7, Option.bind_some, if_pos (by first | (simp; done) | (simp; omega)), e3]
    exact ih k (i + 2) _ (x :: s) (by omega) (by omega) (by simp only; omega) (by simp only; omega) (by simp; omega)
theorem acked_eq {K : Nat} {l : List Int} {m : Nat} (hl : l.length = 2 + 2 * m) (hm : m < 400) (hv : ∀ v ∈ l, 0 ≤ v ∧ v < 4611686018427387904) (hK : m < K) : wigwagref05_acked.f K l = some (match ackS l with | some q => (q, true) | none => ([], false)) := by
 obtain ⟨top, n0, hd, h0, h1⟩ := two_more (l := l) (i := 0) (m := m) (by omega)
 have ht := hv top (List.mem_of_getElem? h0)
 have hn := hv n0 (List.mem_of_getElem? h1)
 rw [List.drop_zero] at hd
 have r0 : rd l 0 = top := rd_at h0
 have r1 : rd l 1 = n0 := rd_at h1
 unfold wigwagref05_acked.f
 rw [if_pos (by omega), if_pos (by omega), r0, r1]
 have hA : ackS l = if n0 ≤ top then sPairs (l.drop 2) [⟨top - n0, top + 1⟩] else none := by
  conv => lhs; rw [hd]
  rfl
 rw [hA]
 by_cases c : n0 > top
 ·rw [if_pos c, if_neg (by omega)]
 ·rw [if_neg c, if_pos (by omega), w64 ⟨by omega, by omega⟩, w64 ⟨by omega, by omega⟩]
  exact acked_loop l (by omega) hv m K 2 _ [] (by omega) hK (by first | omega | (simp only; omega)) (by first | omega | (simp only; omega)) (by first | omega | (simp; done) | (simp; omega))
theorem rRounds_eq : ∀ (m : Nat) (tp : Int) (x : S47) (s : List S47) (l : List Int), rRounds m tp (x :: s) l = (uTake (2 * m) l).bind fun q => (sPairs q.1 (x :: s)).map fun s' => (s', q.2)
 | 0, tp, x, s, l => by rw [rRounds, Nat.mul_zero, uTake, Option.bind_some, sPairs]; rfl
 | m + 1, tp, x, s, l => by
  rw [rRounds, show 2 * (m + 1) = (2 * m + 1) + 1 from by omega, uTake]
  cases h1 : uNum l with
  | none => rfl
  | some r =>
   obtain ⟨g, l1⟩ := r
   rw [Option.bind_some, Option.bind_some, uTake]
   simp only
   cases h2 : uNum l1 with
   | none => split <;> rfl
   | some r2 =>
    obtain ⟨n, l2⟩ := r2
    simp only [Option.bind_some, Option.map_map]
    have e : (⟨x.f0 - (g + 1) - (n + 1), x.f0 - (g + 1)⟩ : S47) = ⟨x.f0 - g - 1 - n - 1, x.f0 - g - 1⟩ := by congr 1 <;> omega
    rw [rRounds_eq m, e]
    cases h3 : uTake (2 * m) l2 with
    | none => simp
    | some q =>
     simp only [Option.bind_some, Option.map_some, Function.comp, sPairs]
     by_cases c1 : g + 1 < x.f0
     ·rw [if_pos c1]
      by_cases c2 : n + 1 ≤ x.f0 - (g + 1)
      ·rw [if_pos c2, if_pos ⟨c1, by omega⟩]
      ·rw [if_neg c2, if_neg (by omega)]; rfl
     ·rw [if_neg c1, if_neg (by omega)]; rfl
theorem rSp_eq (l : List Int) : rSp l = (uNum l).bind fun r => if 1 ≤ r.1 ∧ r.1 ≤ 32 then (uTake (2 * r.1.toNat) r.2).bind fun q => (ackS q.1).map fun s => (s, q.2) else none := by
 unfold rSp
 congr 1
 funext r
 obtain ⟨c, l1⟩ := r
 simp only
 by_cases hc : 1 ≤ c ∧ c ≤ 32
 ·rw [if_pos hc, if_pos hc]
  obtain ⟨m, hm⟩ : ∃ m, c.toNat = m + 1 := ⟨c.toNat - 1, by omega⟩
  rw [hm, show 2 * (m + 1) = (2 * m + 1) + 1 from by omega, uTake]
  cases h1 : uNum l1 with
  | none => rfl
  | some r =>
   obtain ⟨top, l2⟩ := r
   simp only [Option.bind_some, rRounds, uTake]
   cases h2 : uNum l2 with
   | none => rfl
   | some r2 =>
    obtain ⟨n0, l3⟩ := r2
    simp only [Option.bind_some]
    have e : (⟨top + 1 - (n0 + 1), top + 1⟩ : S47) = ⟨top - n0, top + 1⟩ := by congr 1; omega
    rw [rRounds_eq m, e]
    cases h3 : uTake (2 * m) l3 with
    | none => simp
    | some q =>
     simp only [Option.bind_some, Option.map_some, ackS]
     by_cases c1 : n0 ≤ top
     ·rw [if_pos (by omega), if_pos c1]
     ·rw [if_neg (by omega), if_neg c1]; rfl
 ·rw [if_neg hc, if_neg hc]
def setL : List Nat → List Int → (Nat → Int) → Nat → Int
 | o :: os, v :: vs, f => setL os vs (upd f o v)
 | _, _, f => f
theorem rNums_eq : ∀ (os : List Nat) (f : Nat → Int) (l : List Int), rNums os f l = (uTake os.length l).map fun q => (setL os q.1 f, q.2)
 | [], f, l => rfl
 | o :: os, f, l => by
  rw [rNums, List.length_cons, uTake]
  cases h1 : uNum l with
  | none => rfl
  | some r =>
   simp only [Option.bind_some, Option.map_map]
   rw [rNums_eq os]
   rfl
theorem uTake_add : ∀ (a b : Nat) (l : List Int), uTake (a + b) l = (uTake a l).bind fun q => (uTake b q.2).map fun p => (q.1 ++ p.1, p.2)
 | 0, b, l => by
  rw [Nat.zero_add, uTake, Option.bind_some]
  cases uTake b l <;> simp
 | a + 1, b, l => by
  rw [show a + 1 + b = (a + b) + 1 from by omega, uTake, uTake]
  cases h1 : uNum l with
  | none => rfl
  | some r =>
   simp only [Option.bind_some]
   rw [uTake_add a b]
   cases uTake a r.2 with
   | none => rfl
   | some q =>
    simp only [Option.bind_some, Option.map_some]
    cases uTake b q.2 <;> simp
theorem cutR {A : Option Addr} {c : Nat} {l r : List Int} {j : Int} (h0 : 0 ≤ j) (hj : j ≤ l.length) (hr : r = l.drop j.toNat) (hc : l.length ≤ c) :
  ∃ A' c', (∀ W : World, (Instr.slice 24 (.slice A l.length c) (some (.int .i64 j)) none none).run Try.prog W = .ok (.slice A' r.length c') W) ∧ (∀ w, Kd.C (Kd.int .u8) w A l.length l → Kd.C (Kd.int .u8) w A' r.length r) ∧ r.length ≤ c' := by
 subst hr
 obtain ⟨i0, hi0, _, hsz, _⟩ := info_parts info5
 obtain ⟨A', hcut, hA, hC⟩ := print_drop_of (P := Try.prog) (Value.int .u8) 0 24 5 .i64 Try.underlying24 hi0 hsz A c l j h0 hj hc
 exact ⟨A', _, hcut, fun w h => Kd.C_of_reads (h1 := fun _ => rfl) (hA _ (Kd.reads_of_C h)), hC⟩
structure NU (w0 w : World) (v : Value) (l : List Int) : Prop where mk :: (out : Kd.R (Kd.int .u64) 23 w w0.heap.size (fun _ => True) v l)
theorem NU.below {w0 w w1 : World} {v : Value} {l : List Int} (h : NU w0 w v l) (hb : Below w.heap.size w w1) : NU w0 w1 v l := ⟨Kd.R_below h.out hb⟩
theorem NU.grown {w0 w w1 : World} {v : Value} {l : List Int} {g t : Nat} {cs : List Value} (h : NU w0 w v l) (hB : Blk w g t cs) (ht : t ≠ 23) (hg : w.grownBy w1 (some g)) : NU w0 w1 v l := ⟨Kd.R_mono (Kd.R_grown (Kd.R_types h.out hB.out (fun q hq e => by simp [Kd.int, Kd.scalar] at hq; exact ht (e ▸ hq))) hg (fun k hk e => hk.2 (by injection e))) (fun _ hk => hk.1)⟩
theorem NU.drew {w0 w : World} {v : Value} {l : List Int} (h : NU w0 w v l) : NU w0 w.drew v l := h.below (below_drew1 (Below.refl _ _))
theorem NU.open {w0 w : World} {v : Value} {l : List Int} (h : NU w0 w v l) (hp : 0 < l.length) : ∃ ad c, v = .slice (some ad) l.length c := by
 obtain ⟨A, c, rfl, _, hC⟩ := Kd.R_reads h.out
 obtain ⟨ad, rfl, _⟩ := Kd.at_int hC 0 (by omega) (by omega)
 exact ⟨ad, c, rfl⟩
theorem NU.cell {w0 w : World} {ad : Addr} {n c : Nat} {l : List Int} (h : NU w0 w (.slice (some ad) n c) l) (i : Nat) {x : Int} (hx : l[i]? = some x) : w.cell? (ad.add i) = some (.int .u64 x) := by
 have hlt := (List.getElem?_eq_some_iff.1 hx).1
 obtain ⟨ad', e, hc⟩ := Kd.at_int (Kd.R_reads' h.out).2.2 (i : Int) (by omega) (by omega)
 injection e with e
 rw [e]
 rw [Int.toNat_natCast, rd_at hx] at hc
 exact hc
theorem NU.head {w0 w : World} {ad : Addr} {n c : Nat} {l : List Int} (h : NU w0 w (.slice (some ad) n c) l) {x : Int} (hx : l[0]? = some x) : w.cell? ad = some (.int .u64 x) := by
 have := h.cell 0 hx
 rwa [Addr.add_zero'] at this
theorem rack_no1 (k : Nat) (A : Option Addr) (c : Nat) (l : List Int) (w : World) (h0 : Kd.C (Kd.int .u8) w A l.length l) (hc : l.length ≤ c) (K : Int) (T1 : wigwagref05_take.f k l 1 = some ([], 0, false)) :
  Calls Try.prog 45 #[.int .i64 K, .slice A l.length c] w fun e w' => e = .returned (.tuple #[.agg #[.int .i64 0, .int .u64 0, .int .u64 0, .int .u64 0, .int .u64 0, .int .u64 0, .int .u64 0, .bool false, .slice none 0 0, .slice none 0 0], .int .i64 0, .bool false]) ∧ Below w.heap.size w w' := by
 have hu27 := Try.underlying27
 have HS := Since.refl w
 go_enter Try.func45, Try.ntmps45
 go_wp2_with (first | ((with_reducible refine gate_dst (N := 4) rfl ?_); (try (refine gate_guard (by rfl) ?_; dsimp only)); refine seg_new rfl (N := 4) rfl [.int .i64 0, .int .u64 0, .int .u64 0, .int .u64 0, .int .u64 0, .int .u64 0, .int .u64 0, .bool false, .slice none 0 0, .slice none 0 0] 27 ?hr ?_; (case hr => rfl); intro gf hg1 w' Bf hb; have Gf := ge_new HS hg1; replace HS := HS.below hb; clear hg1 hb) | ((go_at_call 46); (with_reducible refine (wigwagref05_take.calls k A c l 1 [] 0 false _ (Kd.C_below h0 HS.out) hc T1).mono ?_); rintro e w' ⟨vU1, rfl, o1, hb⟩; have U1 : NU w w' vU1 _ := ⟨Kd.R_lower o1 HS.le⟩; replace HS := HS.below hb; replace Bf := Bf.below hb; clear hb o1) | ((with_reducible refine gate_ (.store 27 (.tmp 4) (.tmp 40)) rfl ?_); refine seg_store rfl rfl 27 (.tmp 4) (.tmp 40) rfl gf 0 [.int .i64 0, .int .u64 0, .int .u64 0, .int .u64 0, .int .u64 0, .int .u64 0, .int .u64 0, .bool false, .slice none 0 0, .slice none 0 0] [.int .i64 0, .int .u64 0, .int .u64 0, .int .u64 0, .int .u64 0, .int .u64 0, .int .u64 0, .bool false, .slice none 0 0, .slice none 0 0] (.agg #[.int .i64 0, .int .u64 0, .int .u64 0, .int .u64 0, .int .u64 0, .int .u64 0, .int .u64 0, .bool false, .slice none 0 0, .slice none 0 0]) rfl rfl rfl Bf (by kernel_rfl) (nle rfl) rfl rfl ?_; intro w' Bq hg; replace U1 := U1.grown Bf (by decide) hg; replace HS := HS.grown hg Gf; clear Bf; have Bf := Bq; clear Bq hg))
 refine bodyPost_ret (results_ctt rfl _ _ gf 27 _ (0, 0) _ rfl Bf.out hu27 rfl (by kernel_rfl)) rfl ?_
 exact ⟨rfl, HS.out⟩
theorem rack_few (k : Nat) (A : Option Addr) (c : Nat) (l : List Int) (w : World) (h0 : Kd.C (Kd.int .u8) w A l.length l) (hc : l.length ≤ c) (K cnt at1 : Int) (T1 : wigwagref05_take.f k l 1 = some ([cnt], at1, true)) (e1 : decide (cnt < 1) = true) :
  Calls Try.prog 45 #[.int .i64 K, .slice A l.length c] w fun e w' => e = .returned (.tuple #[.agg #[.int .i64 0, .int .u64 0, .int .u64 0, .int .u64 0, .int .u64 0, .int .u64 0, .int .u64 0, .bool false, .slice none 0 0, .slice none 0 0], .int .i64 0, .bool false]) ∧ Below w.heap.size w w' := by
 have hu27 := Try.underlying27
 have HS := Since.refl w
 go_enter Try.func45, Try.ntmps45
 go_wp2_with (first | ((with_reducible refine gate_dst (N := 4) rfl ?_); (try (refine gate_guard (by rfl) ?_; dsimp only)); refine seg_new rfl (N := 4) rfl [.int .i64 0, .int .u64 0, .int .u64 0, .int .u64 0, .int .u64 0, .int .u64 0, .int .u64 0, .bool false, .slice none 0 0, .slice none 0 0] 27 ?hr ?_; (case hr => rfl); intro gf hg1 w' Bf hb; have Gf := ge_new HS hg1; replace HS := HS.below hb; clear hg1 hb) | ((go_at_call 46); (with_reducible refine (wigwagref05_take.calls k A c l 1 [cnt] at1 true _ (Kd.C_below h0 HS.out) hc T1).mono ?_); rintro e w' ⟨vU1, rfl, o1, hb⟩; have U1 : NU w w' vU1 _ := ⟨Kd.R_lower o1 HS.le⟩; replace HS := HS.below hb; replace Bf := Bf.below hb; clear hb o1; obtain ⟨adU1, cU1, rfl⟩ := U1.open (by simp); have x1 := U1.head (x := cnt) rfl) | ((with_reducible refine gate_ (.store 27 (.tmp 4) (.tmp 40)) rfl ?_); refine seg_store rfl rfl 27 (.tmp 4) (.tmp 40) rfl gf 0 [.int .i64 0, .int .u64 0, .int .u64 0, .int .u64 0, .int .u64 0, .int .u64 0, .int .u64 0, .bool false, .slice none 0 0, .slice none 0 0] [.int .i64 0, .int .u64 0, .int .u64 0, .int .u64 0, .int .u64 0, .int .u64 0, .int .u64 0, .bool false, .slice none 0 0, .slice none 0 0] (.agg #[.int .i64 0, .int .u64 0, .int .u64 0, .int .u64 0, .int .u64 0, .int .u64 0, .int .u64 0, .bool false, .slice none 0 0, .slice none 0 0]) rfl rfl rfl Bf (by kernel_rfl) (nle rfl) rfl rfl ?_; intro w' Bq hg; replace U1 := U1.grown Bf (by decide) hg; replace HS := HS.grown hg Gf; clear Bf; have Bf := Bq; clear Bq hg))
 refine bodyPost_ret (results_ctt rfl _ _ gf 27 _ (0, 0) _ rfl Bf.out hu27 rfl (by kernel_rfl)) rfl ?_
 exact ⟨rfl, HS.out⟩
theorem rack_many (k : Nat) (A : Option Addr) (c : Nat) (l : List Int) (w : World) (h0 : Kd.C (Kd.int .u8) w A l.length l) (hc : l.length ≤ c) (K cnt at1 : Int) (T1 : wigwagref05_take.f k l 1 = some ([cnt], at1, true)) (e1 : decide (cnt < 1) = false) (e2 : decide (32 < cnt) = true) :
  Calls Try.prog 45 #[.int .i64 K, .slice A l.length c] w fun e w' => e = .returned (.tuple #[.agg #[.int .i64 0, .int .u64 0, .int .u64 0, .int .u64 0, .int .u64 0, .int .u64 0, .int .u64 0, .bool false, .slice none 0 0, .slice none 0 0], .int .i64 0, .bool false]) ∧ Below w.heap.size w w' := by
 have hu27 := Try.underlying27
 have HS := Since.refl w
 go_enter Try.func45, Try.ntmps45
 go_wp2_with (first | ((with_reducible refine gate_dst (N := 4) rfl ?_); (try (refine gate_guard (by rfl) ?_; dsimp only)); refine seg_new rfl (N := 4) rfl [.int .i64 0, .int .u64 0, .int .u64 0, .int .u64 0, .int .u64 0, .int .u64 0, .int .u64 0, .bool false, .slice none 0 0, .slice none 0 0] 27 ?hr ?_; (case hr => rfl); intro gf hg1 w' Bf hb; have Gf := ge_new HS hg1; replace HS := HS.below hb; clear hg1 hb) | ((go_at_call 46); (with_reducible refine (wigwagref05_take.calls k A c l 1 [cnt] at1 true _ (Kd.C_below h0 HS.out) hc T1).mono ?_); rintro e w' ⟨vU1, rfl, o1, hb⟩; have U1 : NU w w' vU1 _ := ⟨Kd.R_lower o1 HS.le⟩; replace HS := HS.below hb; replace Bf := Bf.below hb; clear hb o1; obtain ⟨adU1, cU1, rfl⟩ := U1.open (by simp); have x1 := U1.head (x := cnt) rfl) | ((with_reducible refine gate_ (.store 27 (.tmp 4) (.tmp 40)) rfl ?_); refine seg_store rfl rfl 27 (.tmp 4) (.tmp 40) rfl gf 0 [.int .i64 0, .int .u64 0, .int .u64 0, .int .u64 0, .int .u64 0, .int .u64 0, .int .u64 0, .bool false, .slice none 0 0, .slice none 0 0] [.int .i64 0, .int .u64 0, .int .u64 0, .int .u64 0, .int .u64 0, .int .u64 0, .int .u64 0, .bool false, .slice none 0 0, .slice none 0 0] (.agg #[.int .i64 0, .int .u64 0, .int .u64 0, .int .u64 0, .int .u64 0, .int .u64 0, .int .u64 0, .bool false, .slice none 0 0, .slice none 0 0]) rfl rfl rfl Bf (by kernel_rfl) (nle rfl) rfl rfl ?_; intro w' Bq hg; replace U1 := U1.grown Bf (by decide) hg; replace HS := HS.grown hg Gf; clear Bf; have Bf := Bq; clear Bq hg))
 refine bodyPost_ret (results_ctt rfl _ _ gf 27 _ (0, 0) _ rfl Bf.out hu27 rfl (by kernel_rfl)) rfl ?_
 exact ⟨rfl, HS.out⟩
theorem rack_no2 (k : Nat) (A : Option Addr) (c : Nat) (l : List Int) (w : World) (h0 : Kd.C (Kd.int .u8) w A l.length l) (hc : l.length ≤ c) (K cnt at1 : Int) (T1 : wigwagref05_take.f k l 1 = some ([cnt], at1, true)) (e1 : decide (cnt < 1) = false) (e2 : decide (32 < cnt) = false) (A1 : Option Addr) (c1 : Nat) (l1 : List Int) (hcut : ∀ W : World, (Instr.slice 24 (.slice A l.length c) (some (.int .i64 at1)) none none).run Try.prog W = .ok (.slice A1 l1.length c1) W) (hA1 : ∀ w, Kd.C (Kd.int .u8) w A l.length l → Kd.C (Kd.int .u8) w A1 l1.length l1) (hc1 : l1.length ≤ c1) (T2 : wigwagref05_take.f k l1 (wrap64 (IntKind.u64.wrap (2 * cnt))) = some ([], 0, false))  :
  Calls Try.prog 45 #[.int .i64 K, .slice A l.length c] w fun e w' => e = .returned (.tuple #[.agg #[.int .i64 0, .int .u64 0, .int .u64 0, .int .u64 0, .int .u64 0, .int .u64 0, .int .u64 0, .bool false, .slice none 0 0, .slice none 0 0], .int .i64 0, .bool false]) ∧ Below w.heap.size w w' := by
 have hu27 := Try.underlying27
 have HS := Since.refl w
 go_enter Try.func45, Try.ntmps45
 go_wp2_with (first | ((with_reducible refine gate_dst (N := 4) rfl ?_); (try (refine gate_guard (by rfl) ?_; dsimp only)); refine seg_new rfl (N := 4) rfl [.int .i64 0, .int .u64 0, .int .u64 0, .int .u64 0, .int .u64 0, .int .u64 0, .int .u64 0, .bool false, .slice none 0 0, .slice none 0 0] 27 ?hr ?_; (case hr => rfl); intro gf hg1 w' Bf hb; have Gf := ge_new HS hg1; replace HS := HS.below hb; clear hg1 hb) | ((go_at_call 46); (with_reducible refine (wigwagref05_take.calls k A c l 1 [cnt] at1 true _ (Kd.C_below h0 HS.out) hc T1).mono ?_); rintro e w' ⟨vU1, rfl, o1, hb⟩; have U1 : NU w w' vU1 _ := ⟨Kd.R_lower o1 HS.le⟩; replace HS := HS.below hb; replace Bf := Bf.below hb; clear hb o1; obtain ⟨adU1, cU1, rfl⟩ := U1.open (by simp); have x1 := U1.head (x := cnt) rfl))
 refine start_ (n := 16) (S := fun w' => w'.cell? adU1 = some (.int .u64 cnt)) (ds := []) (bs 16 0) (by kernel_rfl) rfl rfl (U1.drew.head rfl) (fun hHeld => ?_)
 have U1' := U1.drew; have Bf' := Bf.drew; have HS' := HS.drew
 clear U1 Bf HS
 have U1 := U1'; have Bf := Bf'; have HS := HS'
 clear U1' Bf' HS'
 generalize World.drew w' = w' at U1 Bf HS hHeld ⊢
 refine pure_ (i := 0) (N := some 42) (v := ?_) (a' := ?_) (bs 16 1) rfl rfl (by kernel_rfl) (fun _ _ _ h => h) (Or.inl ⟨by rfl, ?_⟩) ?_ ?_
 rotate_left
 ·intro w'
  go_simp
  with_reducible rfl
 rotate_left
 ·simp only [Act.put, qA_, q0_, q1_, i64_w, i32_w]
  rfl
 refine pure_ (i := 1) (N := some 43) (v := ?_) (a' := ?_) (bs 16 3) rfl rfl (by kernel_rfl) (fun _ _ _ h => h) (Or.inl ⟨by rfl, ?_⟩) ?_ ?_
 rotate_left
 ·intro w'
  go_simp
  with_reducible rfl
 rotate_left
 ·simp only [Act.put, qA_, q0_, q1_, i64_w, i32_w]
  rfl
 refine pure_ (i := 2) (N := some 44) (v := ?_) (a' := ?_) (bs 16 7) rfl rfl (by kernel_rfl) (fun _ _ _ h => h) (Or.inl ⟨by rfl, ?_⟩) ?_ ?_
 rotate_left
 ·intro w'
  go_simp
  with_reducible rfl
 rotate_left
 ·simp only [Act.put, qA_, q0_, q1_, i64_w, i32_w]
  rfl
 refine pure_ (i := 3) (N := some 45) (v := ?_) (a' := ?_) (bs 16 15) rfl rfl (by kernel_rfl) (fun _ _ _ h => h) (Or.inl ⟨by rfl, ?_⟩) ?_ ?_
 rotate_left
 ·intro w'
  go_simp
  with_reducible rfl
 rotate_left
 ·simp only [Act.put, qA_, q0_, q1_, i64_w, i32_w]
  rfl
 refine pure_ (i := 4) (N := some 46) (v := ?_) (a' := ?_) (bs 16 31) rfl rfl (by kernel_rfl) (fun _ _ _ h => h) (Or.inl ⟨by rfl, ?_⟩) ?_ ?_
 rotate_left
 ·intro w'
  go_simp
  with_reducible rfl
 rotate_left
 ·simp only [Act.put, qA_, q0_, q1_, i64_w, i32_w]
  rfl
 refine take_ (i := 5) (N := some 47) (v := ?_) (a' := ?_) (bs 16 63) rfl rfl (by kernel_rfl) (fun _ _ _ h => h) (Or.inl ⟨by rfl, ?_⟩) hHeld ?_ ?_
 rotate_left
 ·intro w' s0
  go_simp
  with_reducible rfl
 rotate_left
 ·simp only [Act.put, qA_, q0_, q1_, i64_w, i32_w]
  rfl
 refine pure_ (i := 6) (N := some 48) (v := ?_) (a' := ?_) (bs 16 127) rfl rfl (by kernel_rfl) (fun _ _ _ h => h) (Or.inl ⟨by rfl, ?_⟩) ?_ ?_
 rotate_left
 ·intro w'
  go_simp
  with_reducible rfl
 rotate_left
 ·simp only [Act.put, qA_, q0_, q1_, i64_w, i32_w]
  rfl
 refine pure_ (i := 7) (N := some 49) (v := ?_) (a' := ?_) (bs 16 255) rfl rfl (by kernel_rfl) (fun _ _ _ h => h) (Or.inl ⟨by rfl, ?_⟩) ?_ ?_
 rotate_left
 ·intro w'
  go_simp
  with_reducible rfl
 rotate_left
 ·simp only [Act.put, qA_, q0_, q1_, i64_w, i32_w]
  rfl
 refine one_ (i := 8) (N := some 50) (bs 16 511) rfl rfl (by kernel_rfl) (by decide) (fun K' hK => ?_)
 refine goes_ Try.func46 (by kernel_rfl) rfl #[.slice A1 l1.length c1, .int .i64 (wrap64 (IntKind.u64.wrap (2 * cnt)))] (by rfl) rfl rfl (by first | rfl | (go_simp; done) | (go_simp; rfl)) ?_
 refine (wigwagref05_take.calls k A1 c1 l1 (wrap64 (IntKind.u64.wrap (2 * cnt))) [] 0 false _ (hA1 _ (Kd.C_below h0 HS.out)) hc1 T2).mono ?_
 rintro e w2 ⟨vU2, rfl, o1, hb⟩
 have U2 : NU w w2 vU2 _ := ⟨Kd.R_lower o1 HS.le⟩
 replace HS := HS.below hb; replace Bf := Bf.below hb; replace U1 := U1.below hb
 refine ⟨_, rfl, ?_⟩
 refine hK.out _ _ (U1.head rfl) (fun hHeld => ?_)
 clear hK K' hb o1
 refine norm_ (a' := ?_) ?_ ?_
 rotate_left
 ·show Act.put _ (some 50) _ = _
  simp only [Act.put, qA_, q0_, q1_, i64_w, i32_w]
  rfl
 refine pure_ (i := 9) (N := some 41) (v := ?_) (a' := ?_) (bs 16 1023) rfl rfl (by kernel_rfl) (fun _ _ _ h => h) (Or.inl ⟨by rfl, ?_⟩) ?_ ?_
 rotate_left
 ·intro w'
  go_simp
  with_reducible rfl
 rotate_left
 ·simp only [Act.put, qA_, q0_, q1_, i64_w, i32_w]
  rfl
 refine pure_ (i := 10) (N := some 51) (v := ?_) (a' := ?_) (bs 16 2047) rfl rfl (by kernel_rfl) (fun _ _ _ h => h) (Or.inl ⟨by rfl, ?_⟩) ?_ ?_
 rotate_left
 ·intro w'
  go_simp
  with_reducible rfl
 rotate_left
 ·simp only [Act.put, qA_, q0_, q1_, i64_w, i32_w]
  rfl
 refine pure_ (i := 11) (N := some 52) (v := ?_) (a' := ?_) (bs 16 4095) rfl rfl (by kernel_rfl) (fun _ _ _ h => h) (Or.inl ⟨by rfl, ?_⟩) ?_ ?_
 rotate_left
 ·intro w'
  go_simp
  with_reducible rfl
 rotate_left
 ·simp only [Act.put, qA_, q0_, q1_, i64_w, i32_w]
  rfl
 refine pure_ (i := 12) (N := some 53) (v := ?_) (a' := ?_) (bs 16 8191) rfl rfl (by kernel_rfl) (fun _ _ _ h => h) (Or.inl ⟨by rfl, ?_⟩) ?_ ?_
 rotate_left
 ·intro w'
  go_simp
  with_reducible rfl
 rotate_left
 ·simp only [Act.put, qA_, q0_, q1_, i64_w, i32_w]
  rfl
 refine pure_ (i := 13) (N := some 10) (v := ?_) (a' := ?_) (bs 16 16383) rfl rfl (by kernel_rfl) (fun _ _ _ h => h) (Or.inl ⟨by rfl, ?_⟩) ?_ ?_
 rotate_left
 ·intro w'
  go_simp
  with_reducible rfl
 rotate_left
 ·simp only [Act.put, qA_, q0_, q1_, i64_w, i32_w]
  rfl
 refine pure_ (i := 14) (N := some 11) (v := ?_) (a' := ?_) (bs 16 32767) rfl rfl (by kernel_rfl) (fun _ _ _ h => h) (Or.inl ⟨by rfl, ?_⟩) ?_ ?_
 rotate_left
 ·intro w'
  go_simp
  with_reducible rfl
 rotate_left
 ·simp only [Act.put, qA_, q0_, q1_, i64_w, i32_w]
  rfl
 refine pure_ (i := 15) (N := some 12) (v := ?_) (a' := ?_) (bs 16 65535) rfl rfl (by kernel_rfl) (fun _ _ _ h => h) (Or.inl ⟨by rfl, ?_⟩) ?_ ?_
 rotate_left
 ·intro w'
  go_simp
  with_reducible rfl
 rotate_left
 ·simp only [Act.put, qA_, q0_, q1_, i64_w, i32_w]
  rfl
 refine done_ (by kernel_rfl) ?_
 go_wp2_with (first | ((with_reducible refine gate_ (.store 27 (.tmp 4) (.tmp 56)) rfl ?_); refine seg_store rfl rfl 27 (.tmp 4) (.tmp 56) rfl gf 0 [.int .i64 0, .int .u64 0, .int .u64 0, .int .u64 0, .int .u64 0, .int .u64 0, .int .u64 0, .bool false, .slice none 0 0, .slice none 0 0] [.int .i64 0, .int .u64 0, .int .u64 0, .int .u64 0, .int .u64 0, .int .u64 0, .int .u64 0, .bool false, .slice none 0 0, .slice none 0 0] (.agg #[.int .i64 0, .int .u64 0, .int .u64 0, .int .u64 0, .int .u64 0, .int .u64 0, .int .u64 0, .bool false, .slice none 0 0, .slice none 0 0]) rfl rfl rfl Bf (by kernel_rfl) (nle rfl) rfl rfl ?_; intro w' Bq hg; replace U1 := U1.grown Bf (by decide) hg; replace HS := HS.grown hg Gf; clear Bf; have Bf := Bq; clear Bq hg))
 refine bodyPost_ret (results_ctt rfl _ _ gf 27 _ (0, 0) _ rfl Bf.out hu27 rfl (by kernel_rfl)) rfl ?_
 exact ⟨rfl, HS.out⟩
theorem rack_bad2a (k : Nat) (A : Option Addr) (c : Nat) (l : List Int) (w : World) (h0 : Kd.C (Kd.int .u8) w A l.length l) (hc : l.length ≤ c) (cnt at1 : Int) (T1 : wigwagref05_take.f k l 1 = some ([cnt], at1, true)) (e1 : decide (cnt < 1) = false) (e2 : decide (32 < cnt) = false) (A1 : Option Addr) (c1 : Nat) (l1 : List Int) (hcut : ∀ W : World, (Instr.slice 24 (.slice A l.length c) (some (.int .i64 at1)) none none).run Try.prog W = .ok (.slice A1 l1.length c1) W) (hA1 : ∀ w, Kd.C (Kd.int .u8) w A l.length l → Kd.C (Kd.int .u8) w A1 l1.length l1) (hc1 : l1.length ≤ c1) (vs : List Int) (n1 : Int) (T2 : wigwagref05_take.f k l1 (wrap64 (IntKind.u64.wrap (2 * cnt))) = some (vs, n1, true)) (A3 : Option Addr) (c3 : Nat) (l3 : List Int) (hcut3 : ∀ W : World, (Instr.slice 24 (.slice A l.length c) (some (.int .i64 (wrap64 (at1 + n1)))) none none).run Try.prog W = .ok (.slice A3 l3.length c3) W) (hA3 : ∀ w, Kd.C (Kd.int .u8) w A l.length l → Kd.C (Kd.int .u8) w A3 l3.length l3) (hc3 : l3.length ≤ c3) (S : List S47) (A2 : wigwagref05_acked.f k vs = some (S, false)) (M : List Int) (n2 : Int) (b3 : Bool) (T3 : wigwagref05_take.f k l3 1 = some (M, n2, b3))  :
  Calls Try.prog 45 #[.int .i64 2, .slice A l.length c] w fun e w' => e = .returned (.tuple #[.agg #[.int .i64 0, .int .u64 0, .int .u64 0, .int .u64 0, .int .u64 0, .int .u64 0, .int .u64 0, .bool false, .slice none 0 0, .slice none 0 0], .int .i64 0, .bool false]) ∧ Below w.heap.size w w' := by
 have hu27 := Try.underlying27
 have HS := Since.refl w
 go_enter Try.func45, Try.ntmps45
 go_wp2_with (first | ((with_reducible refine gate_dst (N := 4) rfl ?_); (try (refine gate_guard (by rfl) ?_; dsimp only)); refine seg_new rfl (N := 4) rfl [.int .i64 0, .int .u64 0, .int .u64 0, .int .u64 0, .int .u64 0, .int .u64 0, .int .u64 0, .bool false, .slice none 0 0, .slice none 0 0] 27 ?hr ?_; (case hr => rfl); intro gf hg1 w' Bf hb; have Gf := ge_new HS hg1; replace HS := HS.below hb; clear hg1 hb) | ((go_at_call 46); (with_reducible refine (wigwagref05_take.calls k A c l 1 [cnt] at1 true _ (Kd.C_below h0 HS.out) hc T1).mono ?_); rintro e w' ⟨vU1, rfl, o1, hb⟩; have U1 : NU w w' vU1 _ := ⟨Kd.R_lower o1 HS.le⟩; replace HS := HS.below hb; replace Bf := Bf.below hb; clear hb o1; obtain ⟨adU1, cU1, rfl⟩ := U1.open (by simp); have x1 := U1.head (x := cnt) rfl))
 refine start_ (n := 16) (S := fun w' => w'.cell? adU1 = some (.int .u64 cnt)) (ds := []) (bs 16 0) (by kernel_rfl) rfl rfl (U1.drew.head rfl) (fun hHeld => ?_)
 have U1' := U1.drew; have Bf' := Bf.drew; have HS' := HS.drew
 clear U1 Bf HS
 have U1 := U1'; have Bf := Bf'; have HS := HS'
 clear U1' Bf' HS'
 generalize World.drew w' = w' at U1 Bf HS hHeld ⊢
 refine pure_ (i := 0) (N := some 42) (v := ?_) (a' := ?_) (bs 16 1) rfl rfl (by kernel_rfl) (fun _ _ _ h => h) (Or.inl ⟨by rfl, ?_⟩) ?_ ?_
 rotate_left
 ·intro w'
  go_simp
  with_reducible rfl
 rotate_left
 ·simp only [Act.put, qA_, q0_, q1_, i64_w, i32_w]
  rfl
 refine pure_ (i := 1) (N := some 43) (v := ?_) (a' := ?_) (bs 16 3) rfl rfl (by kernel_rfl) (fun _ _ _ h => h) (Or.inl ⟨by rfl, ?_⟩) ?_ ?_
 rotate_left
 ·intro w'
  go_simp
  with_reducible rfl
 rotate_left
 ·simp only [Act.put, qA_, q0_, q1_, i64_w, i32_w]
  rfl
 refine pure_ (i := 2) (N := some 44) (v := ?_) (a' := ?_) (bs 16 7) rfl rfl (by kernel_rfl) (fun _ _ _ h => h) (Or.inl ⟨by rfl, ?_⟩) ?_ ?_
 rotate_left
 ·intro w'
  go_simp
  with_reducible rfl
 rotate_left
 ·simp only [Act.put, qA_, q0_, q1_, i64_w, i32_w]
  rfl
 refine pure_ (i := 3) (N := some 45) (v := ?_) (a' := ?_) (bs 16 15) rfl rfl (by kernel_rfl) (fun _ _ _ h => h) (Or.inl ⟨by rfl, ?_⟩) ?_ ?_
 rotate_left
 ·intro w'
  go_simp
  with_reducible rfl
 rotate_left
 ·simp only [Act.put, qA_, q0_, q1_, i64_w, i32_w]
  rfl
 refine pure_ (i := 4) (N := some 46) (v := ?_) (a' := ?_) (bs 16 31) rfl rfl (by kernel_rfl) (fun _ _ _ h => h) (Or.inl ⟨by rfl, ?_⟩) ?_ ?_
 rotate_left
 ·intro w'
  go_simp
  with_reducible rfl
 rotate_left
 ·simp only [Act.put, qA_, q0_, q1_, i64_w, i32_w]
  rfl
 refine take_ (i := 5) (N := some 47) (v := ?_) (a' := ?_) (bs 16 63) rfl rfl (by kernel_rfl) (fun _ _ _ h => h) (Or.inl ⟨by rfl, ?_⟩) hHeld ?_ ?_
 rotate_left
 ·intro w' s0
  go_simp
  with_reducible rfl
 rotate_left
 ·simp only [Act.put, qA_, q0_, q1_, i64_w, i32_w]
  rfl
 refine pure_ (i := 6) (N := some 48) (v := ?_) (a' := ?_) (bs 16 127) rfl rfl (by kernel_rfl) (fun _ _ _ h => h) (Or.inl ⟨by rfl, ?_⟩) ?_ ?_
 rotate_left
 ·intro w'
  go_simp
  with_reducible rfl
 rotate_left
 ·simp only [Act.put, qA_, q0_, q1_, i64_w, i32_w]
  rfl
 refine pure_ (i := 7) (N := some 49) (v := ?_) (a' := ?_) (bs 16 255) rfl rfl (by kernel_rfl) (fun _ _ _ h => h) (Or.inl ⟨by rfl, ?_⟩) ?_ ?_
 rotate_left
 ·intro w'
  go_simp
  with_reducible rfl
 rotate_left
 ·simp only [Act.put, qA_, q0_, q1_, i64_w, i32_w]
  rfl
 refine one_ (i := 8) (N := some 50) (bs 16 511) rfl rfl (by kernel_rfl) (by decide) (fun K' hK => ?_)
 refine goes_ Try.func46 (by kernel_rfl) rfl #[.slice A1 l1.length c1, .int .i64 (wrap64 (IntKind.u64.wrap (2 * cnt)))] (by rfl) rfl rfl (by first | rfl | (go_simp; done) | (go_simp; rfl)) ?_
 refine (wigwagref05_take.calls k A1 c1 l1 (wrap64 (IntKind.u64.wrap (2 * cnt))) vs n1 true _ (hA1 _ (Kd.C_below h0 HS.out)) hc1 T2).mono ?_
 rintro e w2 ⟨vU2, rfl, o1, hb⟩
 have U2 : NU w w2 vU2 _ := ⟨Kd.R_lower o1 HS.le⟩
 replace HS := HS.below hb; replace Bf := Bf.below hb; replace U1 := U1.below hb
 refine ⟨_, rfl, ?_⟩
 refine hK.out _ _ (U1.head rfl) (fun hHeld => ?_)
 clear hK K' hb o1
 refine norm_ (a' := ?_) ?_ ?_
 rotate_left
 ·show Act.put _ (some 50) _ = _
  simp only [Act.put, qA_, q0_, q1_, i64_w, i32_w]
  rfl
 refine pure_ (i := 9) (N := some 41) (v := ?_) (a' := ?_) (bs 16 1023) rfl rfl (by kernel_rfl) (fun _ _ _ h => h) (Or.inl ⟨by rfl, ?_⟩) ?_ ?_
 rotate_left
 ·intro w'
  go_simp
  with_reducible rfl
 rotate_left
 ·simp only [Act.put, qA_, q0_, q1_, i64_w, i32_w]
  rfl
 refine pure_ (i := 10) (N := some 51) (v := ?_) (a' := ?_) (bs 16 2047) rfl rfl (by kernel_rfl) (fun _ _ _ h => h) (Or.inl ⟨by rfl, ?_⟩) ?_ ?_
 rotate_left
 ·intro w'
  go_simp
  with_reducible rfl
 rotate_left
 ·simp only [Act.put, qA_, q0_, q1_, i64_w, i32_w]
  rfl
 refine pure_ (i := 11) (N := some 52) (v := ?_) (a' := ?_) (bs 16 4095) rfl rfl (by kernel_rfl) (fun _ _ _ h => h) (Or.inl ⟨by rfl, ?_⟩) ?_ ?_
 rotate_left
 ·intro w'
  go_simp
  with_reducible rfl
 rotate_left
 ·simp only [Act.put, qA_, q0_, q1_, i64_w, i32_w]
  rfl
 refine pure_ (i := 12) (N := some 53) (v := ?_) (a' := ?_) (bs 16 8191) rfl rfl (by kernel_rfl) (fun _ _ _ h => h) (Or.inl ⟨by rfl, ?_⟩) ?_ ?_
 rotate_left
 ·intro w'
  go_simp
  with_reducible rfl
 rotate_left
 ·simp only [Act.put, qA_, q0_, q1_, i64_w, i32_w]
  rfl
 refine pure_ (i := 13) (N := some 10) (v := ?_) (a' := ?_) (bs 16 16383) rfl rfl (by kernel_rfl) (fun _ _ _ h => h) (Or.inl ⟨by rfl, ?_⟩) ?_ ?_
 rotate_left
 ·intro w'
  go_simp
  with_reducible rfl
 rotate_left
 ·simp only [Act.put, qA_, q0_, q1_, i64_w, i32_w]
  rfl
 refine pure_ (i := 14) (N := some 11) (v := ?_) (a' := ?_) (bs 16 32767) rfl rfl (by kernel_rfl) (fun _ _ _ h => h) (Or.inl ⟨by rfl, ?_⟩) ?_ ?_
 rotate_left
 ·intro w'
  go_simp
  with_reducible rfl
 rotate_left
 ·simp only [Act.put, qA_, q0_, q1_, i64_w, i32_w]
  rfl
 refine pure_ (i := 15) (N := some 12) (v := ?_) (a' := ?_) (bs 16 65535) rfl rfl (by kernel_rfl) (fun _ _ _ h => h) (Or.inl ⟨by rfl, ?_⟩) ?_ ?_
 rotate_left
 ·intro w'
  go_simp
  with_reducible rfl
 rotate_left
 ·simp only [Act.put, qA_, q0_, q1_, i64_w, i32_w]
  rfl
 refine done_ (by kernel_rfl) ?_
 obtain ⟨AU2, cU2, rfl⟩ := Kd.R_slice U2.out
 go_wp2_with (first | ((go_at_call 54); (with_reducible refine (wigwagref05_acked.calls k _ _ vs S false _ (Kd.R_reads' U2.out).2.2 (Kd.R_reads' U2.out).2.1 A2).mono ?_); rintro e w' ⟨vS, rfl, oS, hb⟩; have S9 : SR w.heap.size w' vS _ := (SR.of oS).lower HS.le; replace HS := HS.below hb; replace U1 := U1.below hb; replace U2 := U2.below hb; replace Bf := Bf.below hb; clear hb oS; obtain ⟨As, cs, rfl⟩ := Kd.R_slice S9.to) | ((go_at_call 46); (with_reducible refine (wigwagref05_take.calls k A3 c3 l3 1 M n2 b3 _ (hA3 _ (Kd.C_below h0 HS.out)) hc3 T3).mono ?_); rintro e w' ⟨vU3, rfl, o1, hb⟩; have U3 : NU w w' vU3 _ := ⟨Kd.R_lower o1 HS.le⟩; replace HS := HS.below hb; replace U1 := U1.below hb; replace U2 := U2.below hb; replace S9 := S9.below hb; replace Bf := Bf.below hb; clear hb o1) | ((with_reducible refine gate_ (.store 27 (.tmp 4) (.tmp 81)) rfl ?_); refine seg_store rfl rfl 27 (.tmp 4) (.tmp 81) rfl gf 0 [.int .i64 0, .int .u64 0, .int .u64 0, .int .u64 0, .int .u64 0, .int .u64 0, .int .u64 0, .bool false, .slice none 0 0, .slice none 0 0] [.int .i64 0, .int .u64 0, .int .u64 0, .int .u64 0, .int .u64 0, .int .u64 0, .int .u64 0, .bool false, .slice none 0 0, .slice none 0 0] (.agg #[.int .i64 0, .int .u64 0, .int .u64 0, .int .u64 0, .int .u64 0, .int .u64 0, .int .u64 0, .bool false, .slice none 0 0, .slice none 0 0]) rfl rfl rfl Bf (by kernel_rfl) (nle rfl) rfl rfl ?_; intro w' Bq hg; replace U1 := U1.grown Bf (by decide) hg; replace U2 := U2.grown Bf (by decide) hg; replace S9 := S9.grown Bf (by decide) hg; replace U3 := U3.grown Bf (by decide) hg; replace HS := HS.grown hg Gf; clear Bf; have Bf := Bq; clear Bq hg))
 refine bodyPost_ret (results_ctt rfl _ _ gf 27 _ (0, 0) _ rfl Bf.out hu27 rfl (by kernel_rfl)) rfl ?_
 exact ⟨rfl, HS.out⟩
theorem rack_bad2b (k : Nat) (A : Option Addr) (c : Nat) (l : List Int) (w : World) (h0 : Kd.C (Kd.int .u8) w A l.length l) (hc : l.length ≤ c) (cnt at1 : Int) (T1 : wigwagref05_take.f k l 1 = some ([cnt], at1, true)) (e1 : decide (cnt < 1) = false) (e2 : decide (32 < cnt) = false) (A1 : Option Addr) (c1 : Nat) (l1 : List Int) (hcut : ∀ W : World, (Instr.slice 24 (.slice A l.length c) (some (.int .i64 at1)) none none).run Try.prog W = .ok (.slice A1 l1.length c1) W) (hA1 : ∀ w, Kd.C (Kd.int .u8) w A l.length l → Kd.C (Kd.int .u8) w A1 l1.length l1) (hc1 : l1.length ≤ c1) (vs : List Int) (n1 : Int) (T2 : wigwagref05_take.f k l1 (wrap64 (IntKind.u64.wrap (2 * cnt))) = some (vs, n1, true)) (A3 : Option Addr) (c3 : Nat) (l3 : List Int) (hcut3 : ∀ W : World, (Instr.slice 24 (.slice A l.length c) (some (.int .i64 (wrap64 (at1 + n1)))) none none).run Try.prog W = .ok (.slice A3 l3.length c3) W) (hA3 : ∀ w, Kd.C (Kd.int .u8) w A l.length l → Kd.C (Kd.int .u8) w A3 l3.length l3) (hc3 : l3.length ≤ c3) (S : List S47) (A2 : wigwagref05_acked.f k vs = some (S, true)) (M : List Int) (n2 : Int) (T3 : wigwagref05_take.f k l3 1 = some (M, n2, false))  :
  Calls Try.prog 45 #[.int .i64 2, .slice A l.length c] w fun e w' => e = .returned (.tuple #[.agg #[.int .i64 0, .int .u64 0, .int .u64 0, .int .u64 0, .int .u64 0, .int .u64 0, .int .u64 0, .bool false, .slice none 0 0, .slice none 0 0], .int .i64 0, .bool false]) ∧ Below w.heap.size w w' := by
 have hu27 := Try.underlying27
 have HS := Since.refl w
 go_enter Try.func45, Try.ntmps45
 go_wp2_with (first | ((with_reducible refine gate_dst (N := 4) rfl ?_); (try (refine gate_guard (by rfl) ?_; dsimp only)); refine seg_new rfl (N := 4) rfl [.int .i64 0, .int .u64 0, .int .u64 0, .int .u64 0, .int .u64 0, .int .u64 0, .int .u64 0, .bool false, .slice none 0 0, .slice none 0 0] 27 ?hr ?_; (case hr => rfl); intro gf hg1 w' Bf hb; have Gf := ge_new HS hg1; replace HS := HS.below hb; clear hg1 hb) | ((go_at_call 46); (with_reducible refine (wigwagref05_take.calls k A c l 1 [cnt] at1 true _ (Kd.C_below h0 HS.out) hc T1).mono ?_); rintro e w' ⟨vU1, rfl, o1, hb⟩; have U1 : NU w w' vU1 _ := ⟨Kd.R_lower o1 HS.le⟩; replace HS := HS.below hb; replace Bf := Bf.below hb; clear hb o1; obtain ⟨adU1, cU1, rfl⟩ := U1.open (by simp); have x1 := U1.head (x := cnt) rfl))
 refine start_ (n := 16) (S := fun w' => w'.cell? adU1 = some (.int .u64 cnt)) (ds := []) (bs 16 0) (by kernel_rfl) rfl rfl (U1.drew.head rfl) (fun hHeld => ?_)
 have U1' := U1.drew; have Bf' := Bf.drew; have HS' := HS.drew
 clear U1 Bf HS
 have U1 := U1'; have Bf := Bf'; have HS := HS'
 clear U1' Bf' HS'
 generalize World.drew w' = w' at U1 Bf HS hHeld ⊢
 refine pure_ (i := 0) (N := some 42) (v := ?_) (a' := ?_) (bs 16 1) rfl rfl (by kernel_rfl) (fun _ _ _ h => h) (Or.inl ⟨by rfl, ?_⟩) ?_ ?_
 rotate_left
 ·intro w'
  go_simp
  with_reducible rfl
 rotate_left
 ·simp only [Act.put, qA_, q0_, q1_, i64_w, i32_w]
  rfl
 refine pure_ (i := 1) (N := some 43) (v := ?_) (a' := ?_) (bs 16 3) rfl rfl (by kernel_rfl) (fun _ _ _ h => h) (Or.inl ⟨by rfl, ?_⟩) ?_ ?_
 rotate_left
 ·intro w'
  go_simp
  with_reducible rfl
 rotate_left
 ·simp only [Act.put, qA_, q0_, q1_, i64_w, i32_w]
  rfl
 refine pure_ (i := 2) (N := some 44) (v := ?_) (a' := ?_) (bs 16 7) rfl rfl (by kernel_rfl) (fun _ _ _ h => h) (Or.inl ⟨by rfl, ?_⟩) ?_ ?_
 rotate_left
 ·intro w'
  go_simp
  with_reducible rfl
 rotate_left
 ·simp only [Act.put, qA_, q0_, q1_, i64_w, i32_w]
  rfl
 refine pure_ (i := 3) (N := some 45) (v := ?_) (a' := ?_) (bs 16 15) rfl rfl (by kernel_rfl) (fun _ _ _ h => h) (Or.inl ⟨by rfl, ?_⟩) ?_ ?_
 rotate_left
 ·intro w'
  go_simp
  with_reducible rfl
 rotate_left
 ·simp only [Act.put, qA_, q0_, q1_, i64_w, i32_w]
  rfl
 refine pure_ (i := 4) (N := some 46) (v := ?_) (a' := ?_) (bs 16 31) rfl rfl (by kernel_rfl) (fun _ _ _ h => h) (Or.inl ⟨by rfl, ?_⟩) ?_ ?_
 rotate_left
 ·intro w'
  go_simp
  with_reducible rfl
 rotate_left
 ·simp only [Act.put, qA_, q0_, q1_, i64_w, i32_w]
  rfl
 refine take_ (i := 5) (N := some 47) (v := ?_) (a' := ?_) (bs 16 63) rfl rfl (by kernel_rfl) (fun _ _ _ h => h) (Or.inl ⟨by rfl, ?_⟩) hHeld ?_ ?_
 rotate_left
 ·intro w' s0
  go_simp
  with_reducible rfl
 rotate_left
 ·simp only [Act.put, qA_, q0_, q1_, i64_w, i32_w]
  rfl
 refine pure_ (i := 6) (N := some 48) (v := ?_) (a' := ?_) (bs 16 127) rfl rfl (by kernel_rfl) (fun _ _ _ h => h) (Or.inl ⟨by rfl, ?_⟩) ?_ ?_
 rotate_left
 ·intro w'
  go_simp
  with_reducible rfl
 rotate_left
 ·simp only [Act.put, qA_, q0_, q1_, i64_w, i32_w]
  rfl
 refine pure_ (i := 7) (N := some 49) (v := ?_) (a' := ?_) (bs 16 255) rfl rfl (by kernel_rfl) (fun _ _ _ h => h) (Or.inl ⟨by rfl, ?_⟩) ?_ ?_
 rotate_left
 ·intro w'
  go_simp
  with_reducible rfl
 rotate_left
 ·simp only [Act.put, qA_, q0_, q1_, i64_w, i32_w]
  rfl
 refine one_ (i := 8) (N := some 50) (bs 16 511) rfl rfl (by kernel_rfl) (by decide) (fun K' hK => ?_)
 refine goes_ Try.func46 (by kernel_rfl) rfl #[.slice A1 l1.length c1, .int .i64 (wrap64 (IntKind.u64.wrap (2 * cnt)))] (by rfl) rfl rfl (by first | rfl | (go_simp; done) | (go_simp; rfl)) ?_
 refine (wigwagref05_take.calls k A1 c1 l1 (wrap64 (IntKind.u64.wrap (2 * cnt))) vs n1 true _ (hA1 _ (Kd.C_below h0 HS.out)) hc1 T2).mono ?_
 rintro e w2 ⟨vU2, rfl, o1, hb⟩
 have U2 : NU w w2 vU2 _ := ⟨Kd.R_lower o1 HS.le⟩
 replace HS := HS.below hb; replace Bf := Bf.below hb; replace U1 := U1.below hb
 refine ⟨_, rfl, ?_⟩
 refine hK.out _ _ (U1.head rfl) (fun hHeld => ?_)
 clear hK K' hb o1
 refine norm_ (a' := ?_) ?_ ?_
 rotate_left
 ·show Act.put _ (some 50) _ = _
  simp only [Act.put, qA_, q0_, q1_, i64_w, i32_w]
  rfl
 refine pure_ (i := 9) (N := some 41) (v := ?_) (a' := ?_) (bs 16 1023) rfl rfl (by kernel_rfl) (fun _ _ _ h => h) (Or.inl ⟨by rfl, ?_⟩) ?_ ?_
 rotate_left
 ·intro w'
  go_simp
  with_reducible rfl
 rotate_left
 ·simp only [Act.put, qA_, q0_, q1_, i64_w, i32_w]
  rfl
 refine pure_ (i := 10) (N := some 51) (v := ?_) (a' := ?_) (bs 16 2047) rfl rfl (by kernel_rfl) (fun _ _ _ h => h) (Or.inl ⟨by rfl, ?_⟩) ?_ ?_
 rotate_left
 ·intro w'
  go_simp
  with_reducible rfl
 rotate_left
 ·simp only [Act.put, qA_, q0_, q1_, i64_w, i32_w]
  rfl
 refine pure_ (i := 11) (N := some 52) (v := ?_) (a' := ?_) (bs 16 4095) rfl rfl (by kernel_rfl) (fun _ _ _ h => h) (Or.inl ⟨by rfl, ?_⟩) ?_ ?_
 rotate_left
 ·intro w'
  go_simp
  with_reducible rfl
 rotate_left
 ·simp only [Act.put, qA_, q0_, q1_, i64_w, i32_w]
  rfl
 refine pure_ (i := 12) (N := some 53) (v := ?_) (a' := ?_) (bs 16 8191) rfl rfl (by kernel_rfl) (fun _ _ _ h => h) (Or.inl ⟨by rfl, ?_⟩) ?_ ?_
 rotate_left
 ·intro w'
  go_simp
  with_reducible rfl
 rotate_left
 ·simp only [Act.put, qA_, q0_, q1_, i64_w, i32_w]
  rfl
 refine pure_ (i := 13) (N := some 10) (v := ?_) (a' := ?_) (bs 16 16383) rfl rfl (by kernel_rfl) (fun _ _ _ h => h) (Or.inl ⟨by rfl, ?_⟩) ?_ ?_
 rotate_left
 ·intro w'
  go_simp
  with_reducible rfl
 rotate_left
 ·simp only [Act.put, qA_, q0_, q1_, i64_w, i32_w]
  rfl
 refine pure_ (i := 14) (N := some 11) (v := ?_) (a' := ?_) (bs 16 32767) rfl rfl (by kernel_rfl) (fun _ _ _ h => h) (Or.inl ⟨by rfl, ?_⟩) ?_ ?_
 rotate_left
 ·intro w'
  go_simp
  with_reducible rfl
 rotate_left
 ·simp only [Act.put, qA_, q0_, q1_, i64_w, i32_w]
  rfl
 refine pure_ (i := 15) (N := some 12) (v := ?_) (a' := ?_) (bs 16 65535) rfl rfl (by kernel_rfl) (fun _ _ _ h => h) (Or.inl ⟨by rfl, ?_⟩) ?_ ?_
 rotate_left
 ·intro w'
  go_simp
  with_reducible rfl
 rotate_left
 ·simp only [Act.put, qA_, q0_, q1_, i64_w, i32_w]
  rfl
 refine done_ (by kernel_rfl) ?_
 obtain ⟨AU2, cU2, rfl⟩ := Kd.R_slice U2.out
 go_wp2_with (first | ((go_at_call 54); (with_reducible refine (wigwagref05_acked.calls k _ _ vs S true _ (Kd.R_reads' U2.out).2.2 (Kd.R_reads' U2.out).2.1 A2).mono ?_); rintro e w' ⟨vS, rfl, oS, hb⟩; have S9 : SR w.heap.size w' vS _ := (SR.of oS).lower HS.le; replace HS := HS.below hb; replace U1 := U1.below hb; replace U2 := U2.below hb; replace Bf := Bf.below hb; clear hb oS; obtain ⟨As, cs, rfl⟩ := Kd.R_slice S9.to) | ((go_at_call 46); (with_reducible refine (wigwagref05_take.calls k A3 c3 l3 1 M n2 false _ (hA3 _ (Kd.C_below h0 HS.out)) hc3 T3).mono ?_); rintro e w' ⟨vU3, rfl, o1, hb⟩; have U3 : NU w w' vU3 _ := ⟨Kd.R_lower o1 HS.le⟩; replace HS := HS.below hb; replace U1 := U1.below hb; replace U2 := U2.below hb; replace S9 := S9.below hb; replace Bf := Bf.below hb; clear hb o1) | ((with_reducible refine gate_ (.store 27 (.tmp 4) (.tmp 81)) rfl ?_); refine seg_store rfl rfl 27 (.tmp 4) (.tmp 81) rfl gf 0 [.int .i64 0, .int .u64 0, .int .u64 0, .int .u64 0, .int .u64 0, .int .u64 0, .int .u64 0, .bool false, .slice none 0 0, .slice none 0 0] [.int .i64 0, .int .u64 0, .int .u64 0, .int .u64 0, .int .u64 0, .int .u64 0, .int .u64 0, .bool false, .slice none 0 0, .slice none 0 0] (.agg #[.int .i64 0, .int .u64 0, .int .u64 0, .int .u64 0, .int .u64 0, .int .u64 0, .int .u64 0, .bool false, .slice none 0 0, .slice none 0 0]) rfl rfl rfl Bf (by kernel_rfl) (nle rfl) rfl rfl ?_; intro w' Bq hg; replace U1 := U1.grown Bf (by decide) hg; replace U2 := U2.grown Bf (by decide) hg; replace S9 := S9.grown Bf (by decide) hg; replace U3 := U3.grown Bf (by decide) hg; replace HS := HS.grown hg Gf; clear Bf; have Bf := Bq; clear Bq hg))
 refine bodyPost_ret (results_ctt rfl _ _ gf 27 _ (0, 0) _ rfl Bf.out hu27 rfl (by kernel_rfl)) rfl ?_
 exact ⟨rfl, HS.out⟩
theorem rack_ok2 (k : Nat) (A : Option Addr) (c : Nat) (l : List Int) (w : World) (h0 : Kd.C (Kd.int .u8) w A l.length l) (hc : l.length ≤ c) (cnt at1 : Int) (T1 : wigwagref05_take.f k l 1 = some ([cnt], at1, true)) (e1 : decide (cnt < 1) = false) (e2 : decide (32 < cnt) = false) (A1 : Option Addr) (c1 : Nat) (l1 : List Int) (hcut : ∀ W : World, (Instr.slice 24 (.slice A l.length c) (some (.int .i64 at1)) none none).run Try.prog W = .ok (.slice A1 l1.length c1) W) (hA1 : ∀ w, Kd.C (Kd.int .u8) w A l.length l → Kd.C (Kd.int .u8) w A1 l1.length l1) (hc1 : l1.length ≤ c1) (vs : List Int) (n1 : Int) (T2 : wigwagref05_take.f k l1 (wrap64 (IntKind.u64.wrap (2 * cnt))) = some (vs, n1, true)) (A3 : Option Addr) (c3 : Nat) (l3 : List Int) (hcut3 : ∀ W : World, (Instr.slice 24 (.slice A l.length c) (some (.int .i64 (wrap64 (at1 + n1)))) none none).run Try.prog W = .ok (.slice A3 l3.length c3) W) (hA3 : ∀ w, Kd.C (Kd.int .u8) w A l.length l → Kd.C (Kd.int .u8) w A3 l3.length l3) (hc3 : l3.length ≤ c3) (S : List S47) (A2 : wigwagref05_acked.f k vs = some (S, true)) (d n2 : Int) (T3 : wigwagref05_take.f k l3 1 = some ([d], n2, true))  :
  Calls Try.prog 45 #[.int .i64 2, .slice A l.length c] w fun e w' => ∃ As cs, e = .returned (.tuple #[.agg #[.int .i64 2, .int .u64 0, .int .u64 0, .int .u64 0, .int .u64 0, .int .u64 d, .int .u64 0, .bool false, .slice none 0 0, .slice As S.length cs], .int .i64 (wrap64 (wrap64 (at1 + n1) + n2)), .bool true]) ∧ SR w.heap.size w' (.slice As S.length cs) S ∧ Below w.heap.size w w' := by
 have hu27 := Try.underlying27
 have HS := Since.refl w
 go_enter Try.func45, Try.ntmps45
 go_wp2_with (first | ((with_reducible refine gate_dst (N := 4) rfl ?_); (try (refine gate_guard (by rfl) ?_; dsimp only)); refine seg_new rfl (N := 4) rfl [.int .i64 0, .int .u64 0, .int .u64 0, .int .u64 0, .int .u64 0, .int .u64 0, .int .u64 0, .bool false, .slice none 0 0, .slice none 0 0] 27 ?hr ?_; (case hr => rfl); intro gf hg1 w' Bf hb; have Gf := ge_new HS hg1; replace HS := HS.below hb; clear hg1 hb) | ((go_at_call 46); (with_reducible refine (wigwagref05_take.calls k A c l 1 [cnt] at1 true _ (Kd.C_below h0 HS.out) hc T1).mono ?_); rintro e w' ⟨vU1, rfl, o1, hb⟩; have U1 : NU w w' vU1 _ := ⟨Kd.R_lower o1 HS.le⟩; replace HS := HS.below hb; replace Bf := Bf.below hb; clear hb o1; obtain ⟨adU1, cU1, rfl⟩ := U1.open (by simp); have x1 := U1.head (x := cnt) rfl))
 refine start_ (n := 16) (S := fun w' => w'.cell? adU1 = some (.int .u64 cnt)) (ds := []) (bs 16 0) (by kernel_rfl) rfl rfl (U1.drew.head rfl) (fun hHeld => ?_)
 have U1' := U1.drew; have Bf' := Bf.drew; have HS' := HS.drew
 clear U1 Bf HS
 have U1 := U1'; have Bf := Bf'; have HS := HS'
 clear U1' Bf' HS'
 generalize World.drew w' = w' at U1 Bf HS hHeld ⊢
 refine pure_ (i := 0) (N := some 42) (v := ?_) (a' := ?_) (bs 16 1) rfl rfl (by kernel_rfl) (fun _ _ _ h => h) (Or.inl ⟨by rfl, ?_⟩) ?_ ?_
 rotate_left
 ·intro w'
  go_simp
  with_reducible rfl
 rotate_left
 ·simp only [Act.put, qA_, q0_, q1_, i64_w, i32_w]
  rfl
 refine pure_ (i := 1) (N := some 43) (v := ?_) (a' := ?_) (bs 16 3) rfl rfl (by kernel_rfl) (fun _ _ _ h => h) (Or.inl ⟨by rfl, ?_⟩) ?_ ?_
 rotate_left
 ·intro w'
  go_simp
  with_reducible rfl
 rotate_left
 ·simp only [Act.put, qA_, q0_, q1_, i64_w, i32_w]
  rfl
 refine pure_ (i := 2) (N := some 44) (v := ?_) (a' := ?_) (bs 16 7) rfl rfl (by kernel_rfl) (fun _ _ _ h => h) (Or.inl ⟨by rfl, ?_⟩) ?_ ?_
 rotate_left
 ·intro w'
  go_simp
  with_reducible rfl
 rotate_left
 ·simp only [Act.put, qA_, q0_, q1_, i64_w, i32_w]
  rfl
 refine pure_ (i := 3) (N := some 45) (v := ?_) (a' := ?_) (bs 16 15) rfl rfl (by kernel_rfl) (fun _ _ _ h => h) (Or.inl ⟨by rfl, ?_⟩) ?_ ?_
 rotate_left
 ·intro w'
  go_simp
  with_reducible rfl
 rotate_left
 ·simp only [Act.put, qA_, q0_, q1_, i64_w, i32_w]
  rfl
 refine pure_ (i := 4) (N := some 46) (v := ?_) (a' := ?_) (bs 16 31) rfl rfl (by kernel_rfl) (fun _ _ _ h => h) (Or.inl ⟨by rfl, ?_⟩) ?_ ?_
 rotate_left
 ·intro w'
  go_simp
  with_reducible rfl
 rotate_left
 ·simp only [Act.put, qA_, q0_, q1_, i64_w, i32_w]
  rfl
 refine take_ (i := 5) (N := some 47) (v := ?_) (a' := ?_) (bs 16 63) rfl rfl (by kernel_rfl) (fun _ _ _ h => h) (Or.inl ⟨by rfl, ?_⟩) hHeld ?_ ?_
 rotate_left
 ·intro w' s0
  go_simp
  with_reducible rfl
 rotate_left
 ·simp only [Act.put, qA_, q0_, q1_, i64_w, i32_w]
  rfl
 refine pure_ (i := 6) (N := some 48) (v := ?_) (a' := ?_) (bs 16 127) rfl rfl (by kernel_rfl) (fun _ _ _ h => h) (Or.inl ⟨by rfl, ?_⟩) ?_ ?_
 rotate_left
 ·intro w'
  go_simp
  with_reducible rfl
 rotate_left
 ·simp only [Act.put, qA_, q0_, q1_, i64_w, i32_w]
  rfl
 refine pure_ (i := 7) (N := some 49) (v := ?_) (a' := ?_) (bs 16 255) rfl rfl (by kernel_rfl) (fun _ _ _ h => h) (Or.inl ⟨by rfl, ?_⟩) ?_ ?_
 rotate_left
 ·intro w'
  go_simp
  with_reducible rfl
 rotate_left
 ·simp only [Act.put, qA_, q0_, q1_, i64_w, i32_w]
  rfl
 refine one_ (i := 8) (N := some 50) (bs 16 511) rfl rfl (by kernel_rfl) (by decide) (fun K' hK => ?_)
 refine goes_ Try.func46 (by kernel_rfl) rfl #[.slice A1 l1.length c1, .int .i64 (wrap64 (IntKind.u64.wrap (2 * cnt)))] (by rfl) rfl rfl (by first | rfl | (go_simp; done) | (go_simp; rfl)) ?_
 refine (wigwagref05_take.calls k A1 c1 l1 (wrap64 (IntKind.u64.wrap (2 * cnt))) vs n1 true _ (hA1 _ (Kd.C_below h0 HS.out)) hc1 T2).mono ?_
 rintro e w2 ⟨vU2, rfl, o1, hb⟩
 have U2 : NU w w2 vU2 _ := ⟨Kd.R_lower o1 HS.le⟩
 replace HS := HS.below hb; replace Bf := Bf.below hb; replace U1 := U1.below hb
 refine ⟨_, rfl, ?_⟩
 refine hK.out _ _ (U1.head rfl) (fun hHeld => ?_)
 clear hK K' hb o1
 refine norm_ (a' := ?_) ?_ ?_
 rotate_left
 ·show Act.put _ (some 50) _ = _
  simp only [Act.put, qA_, q0_, q1_, i64_w, i32_w]
  rfl
 refine pure_ (i := 9) (N := some 41) (v := ?_) (a' := ?_) (bs 16 1023) rfl rfl (by kernel_rfl) (fun _ _ _ h => h) (Or.inl ⟨by rfl, ?_⟩) ?_ ?_
 rotate_left
 ·intro w'
  go_simp
  with_reducible rfl
 rotate_left
 ·simp only [Act.put, qA_, q0_, q1_, i64_w, i32_w]
  rfl
 refine pure_ (i := 10) (N := some 51) (v := ?_) (a' := ?_) (bs 16 2047) rfl rfl (by kernel_rfl) (fun _ _ _ h => h) (Or.inl ⟨by rfl, ?_⟩) ?_ ?_
 rotate_left
 ·intro w'
  go_simp
  with_reducible rfl
 rotate_left
 ·simp only [Act.put, qA_, q0_, q1_, i64_w, i32_w]
  rfl
 refine pure_ (i := 11) (N := some 52) (v := ?_) (a' := ?_) (bs 16 4095) rfl rfl (by kernel_rfl) (fun _ _ _ h => h) (Or.inl ⟨by rfl, ?_⟩) ?_ ?_
 rotate_left
 ·intro w'
  go_simp
  with_reducible rfl
 rotate_left
 ·simp only [Act.put, qA_, q0_, q1_, i64_w, i32_w]
  rfl
 refine pure_ (i := 12) (N := some 53) (v := ?_) (a' := ?_) (bs 16 8191) rfl rfl (by kernel_rfl) (fun _ _ _ h => h) (Or.inl ⟨by rfl, ?_⟩) ?_ ?_
 rotate_left
 ·intro w'
  go_simp
  with_reducible rfl
 rotate_left
 ·simp only [Act.put, qA_, q0_, q1_, i64_w, i32_w]
  rfl
 refine pure_ (i := 13) (N := some 10) (v := ?_) (a' := ?_) (bs 16 16383) rfl rfl (by kernel_rfl) (fun _ _ _ h => h) (Or.inl ⟨by rfl, ?_⟩) ?_ ?_
 rotate_left
 ·intro w'
  go_simp
  with_reducible rfl
 rotate_left
 ·simp only [Act.put, qA_, q0_, q1_, i64_w, i32_w]
  rfl
 refine pure_ (i := 14) (N := some 11) (v := ?_) (a' := ?_) (bs 16 32767) rfl rfl (by kernel_rfl) (fun _ _ _ h => h) (Or.inl ⟨by rfl, ?_⟩) ?_ ?_
 rotate_left
 ·intro w'
  go_simp
  with_reducible rfl
 rotate_left
 ·simp only [Act.put, qA_, q0_, q1_, i64_w, i32_w]
  rfl
 refine pure_ (i := 15) (N := some 12) (v := ?_) (a' := ?_) (bs 16 65535) rfl rfl (by kernel_rfl) (fun _ _ _ h => h) (Or.inl ⟨by rfl, ?_⟩) ?_ ?_
 rotate_left
 ·intro w'
  go_simp
  with_reducible rfl
 rotate_left
 ·simp only [Act.put, qA_, q0_, q1_, i64_w, i32_w]
  rfl
 refine done_ (by kernel_rfl) ?_
 obtain ⟨AU2, cU2, rfl⟩ := Kd.R_slice U2.out
 go_wp2_with (first | ((go_at_call 54); (with_reducible refine (wigwagref05_acked.calls k _ _ vs S true _ (Kd.R_reads' U2.out).2.2 (Kd.R_reads' U2.out).2.1 A2).mono ?_); rintro e w' ⟨vS, rfl, oS, hb⟩; have S9 : SR w.heap.size w' vS _ := (SR.of oS).lower HS.le; replace HS := HS.below hb; replace U1 := U1.below hb; replace U2 := U2.below hb; replace Bf := Bf.below hb; clear hb oS; obtain ⟨As, cs, rfl⟩ := Kd.R_slice S9.to) | ((go_at_call 46); (with_reducible refine (wigwagref05_take.calls k A3 c3 l3 1 [d] n2 true _ (hA3 _ (Kd.C_below h0 HS.out)) hc3 T3).mono ?_); rintro e w' ⟨vU3, rfl, o1, hb⟩; have U3 : NU w w' vU3 _ := ⟨Kd.R_lower o1 HS.le⟩; replace HS := HS.below hb; replace U1 := U1.below hb; replace U2 := U2.below hb; replace S9 := S9.below hb; replace Bf := Bf.below hb; clear hb o1; obtain ⟨adU3, cU3, rfl⟩ := U3.open (by simp); have y0 := U3.head (x := d) rfl) | ((with_reducible refine gate_dst (N := 19) rfl ?_); (try (refine gate_guard (by rfl) ?_; dsimp only)); refine seg_new rfl (N := 19) rfl [.int .i64 0, .int .u64 0, .int .u64 0, .int .u64 0, .int .u64 0, .int .u64 0, .int .u64 0, .bool false, .slice none 0 0, .slice none 0 0] 27 ?hr ?_; (case hr => rfl); intro gn hg1 w' Bn hb; have Gn := ge_new HS hg1; have Nn_f := ne_new Bf hg1; replace HS := HS.below hb; replace U1 := U1.below hb; replace U2 := U2.below hb; replace S9 := S9.below hb; replace U3 := U3.below hb; replace Bf := Bf.below hb; clear hg1 hb) | ((with_reducible refine gate_ (.store 27 (.tmp 19) (.tmp 87)) rfl ?_); refine seg_store rfl rfl 27 (.tmp 19) (.tmp 87) rfl gn 0 [.int .i64 2, .int .u64 0, .int .u64 0, .int .u64 0, .int .u64 0, .int .u64 d, .int .u64 0, .bool false, .slice none 0 0, .slice As S.length cs] [.int .i64 2, .int .u64 0, .int .u64 0, .int .u64 0, .int .u64 0, .int .u64 d, .int .u64 0, .bool false, .slice none 0 0, .slice As S.length cs] (.agg #[.int .i64 2, .int .u64 0, .int .u64 0, .int .u64 0, .int .u64 0, .int .u64 d, .int .u64 0, .bool false, .slice none 0 0, .slice As S.length cs]) rfl rfl rfl Bn (by kernel_rfl) (nle rfl) rfl rfl ?_; intro w' Bq hg; replace U1 := U1.grown Bn (by decide) hg; replace U2 := U2.grown Bn (by decide) hg; replace S9 := S9.grown Bn (by decide) hg; replace U3 := U3.grown Bn (by decide) hg; replace Bf := Bf.grown hg Nn_f.symm; replace HS := HS.grown hg Gn; clear Bn; have Bn := Bq; clear Bq hg) | ((with_reducible refine gate_dst (N := 94) rfl ?_); (try (refine gate_guard (by rfl) ?_; dsimp only)); refine seg_load rfl (N := 94) rfl 27 (.tmp 19) rfl gn 0 [.int .i64 2, .int .u64 0, .int .u64 0, .int .u64 0, .int .u64 0, .int .u64 d, .int .u64 0, .bool false, .slice none 0 0, .slice As S.length cs] rfl Bn rfl Try.underlying27 rfl (by kernel_rfl) ?_) | ((with_reducible refine gate_ (.store 27 (.tmp 4) (.tmp 94)) rfl ?_); refine seg_store rfl rfl 27 (.tmp 4) (.tmp 94) rfl gf 0 [.int .i64 2, .int .u64 0, .int .u64 0, .int .u64 0, .int .u64 0, .int .u64 d, .int .u64 0, .bool false, .slice none 0 0, .slice As S.length cs] [.int .i64 2, .int .u64 0, .int .u64 0, .int .u64 0, .int .u64 0, .int .u64 d, .int .u64 0, .bool false, .slice none 0 0, .slice As S.length cs] (.agg #[.int .i64 2, .int .u64 0, .int .u64 0, .int .u64 0, .int .u64 0, .int .u64 d, .int .u64 0, .bool false, .slice none 0 0, .slice As S.length cs]) rfl rfl rfl Bf (by kernel_rfl) (nle rfl) rfl rfl ?_; intro w' Bq hg; replace U1 := U1.grown Bf (by decide) hg; replace U2 := U2.grown Bf (by decide) hg; replace S9 := S9.grown Bf (by decide) hg; replace U3 := U3.grown Bf (by decide) hg; replace Bn := Bn.grown hg Nn_f; replace HS := HS.grown hg Gf; clear Bf; have Bf := Bq; clear Bq hg))
 refine bodyPost_ret (results_ctt rfl _ _ gf 27 _ (0, 0) _ rfl Bf.out hu27 rfl (by kernel_rfl)) rfl ?_
 exact ⟨As, cs, rfl, S9, HS.out⟩
theorem rack_bad3a (k : Nat) (A : Option Addr) (c : Nat) (l : List Int) (w : World) (h0 : Kd.C (Kd.int .u8) w A l.length l) (hc : l.length ≤ c) (cnt at1 : Int) (T1 : wigwagref05_take.f k l 1 = some ([cnt], at1, true)) (e1 : decide (cnt < 1) = false) (e2 : decide (32 < cnt) = false) (A1 : Option Addr) (c1 : Nat) (l1 : List Int) (hcut : ∀ W : World, (Instr.slice 24 (.slice A l.length c) (some (.int .i64 at1)) none none).run Try.prog W = .ok (.slice A1 l1.length c1) W) (hA1 : ∀ w, Kd.C (Kd.int .u8) w A l.length l → Kd.C (Kd.int .u8) w A1 l1.length l1) (hc1 : l1.length ≤ c1) (vs : List Int) (n1 : Int) (T2 : wigwagref05_take.f k l1 (wrap64 (IntKind.u64.wrap (2 * cnt))) = some (vs, n1, true)) (A3 : Option Addr) (c3 : Nat) (l3 : List Int) (hcut3 : ∀ W : World, (Instr.slice 24 (.slice A l.length c) (some (.int .i64 (wrap64 (at1 + n1)))) none none).run Try.prog W = .ok (.slice A3 l3.length c3) W) (hA3 : ∀ w, Kd.C (Kd.int .u8) w A l.length l → Kd.C (Kd.int .u8) w A3 l3.length l3) (hc3 : l3.length ≤ c3) (S : List S47) (A2 : wigwagref05_acked.f k vs = some (S, false)) (M : List Int) (n2 : Int) (b3 : Bool) (T3 : wigwagref05_take.f k l3 2 = some (M, n2, b3))  :
  Calls Try.prog 45 #[.int .i64 3, .slice A l.length c] w fun e w' => e = .returned (.tuple #[.agg #[.int .i64 0, .int .u64 0, .int .u64 0, .int .u64 0, .int .u64 0, .int .u64 0, .int .u64 0, .bool false, .slice none 0 0, .slice none 0 0], .int .i64 0, .bool false]) ∧ Below w.heap.size w w' := by
 have hu27 := Try.underlying27
 have HS := Since.refl w
 go_enter Try.func45, Try.ntmps45
 go_wp2_with (first | ((with_reducible refine gate_dst (N := 4) rfl ?_); (try (refine gate_guard (by rfl) ?_; dsimp only)); refine seg_new rfl (N := 4) rfl [.int .i64 0, .int .u64 0, .int .u64 0, .int .u64 0, .int .u64 0, .int .u64 0, .int .u64 0, .bool false, .slice none 0 0, .slice none 0 0] 27 ?hr ?_; (case hr => rfl); intro gf hg1 w' Bf hb; have Gf := ge_new HS hg1; replace HS := HS.below hb; clear hg1 hb) | ((go_at_call 46); (with_reducible refine (wigwagref05_take.calls k A c l 1 [cnt] at1 true _ (Kd.C_below h0 HS.out) hc T1).mono ?_); rintro e w' ⟨vU1, rfl, o1, hb⟩; have U1 : NU w w' vU1 _ := ⟨Kd.R_lower o1 HS.le⟩; replace HS := HS.below hb; replace Bf := Bf.below hb; clear hb o1; obtain ⟨adU1, cU1, rfl⟩ := U1.open (by simp); have x1 := U1.head (x := cnt) rfl))
 refine start_ (n := 16) (S := fun w' => w'.cell? adU1 = some (.int .u64 cnt)) (ds := []) (bs 16 0) (by kernel_rfl) rfl rfl (U1.drew.head rfl) (fun hHeld => ?_)
 have U1' := U1.drew; have Bf' := Bf.drew; have HS' := HS.drew
 clear U1 Bf HS
 have U1 := U1'; have Bf := Bf'; have HS := HS'
 clear U1' Bf' HS'
 generalize World.drew w' = w' at U1 Bf HS hHeld ⊢
 refine pure_ (i := 0) (N := some 42) (v := ?_) (a' := ?_) (bs 16 1) rfl rfl (by kernel_rfl) (fun _ _ _ h => h) (Or.inl ⟨by rfl, ?_⟩) ?_ ?_
 rotate_left
 ·intro w'
  go_simp
  with_reducible rfl
 rotate_left
 ·simp only [Act.put, qA_, q0_, q1_, i64_w, i32_w]
  rfl
 refine pure_ (i := 1) (N := some 43) (v := ?_) (a' := ?_) (bs 16 3) rfl rfl (by kernel_rfl) (fun _ _ _ h => h) (Or.inl ⟨by rfl, ?_⟩) ?_ ?_
 rotate_left
 ·intro w'
  go_simp
  with_reducible rfl
 rotate_left
 ·simp only [Act.put, qA_, q0_, q1_, i64_w, i32_w]
  rfl
 refine pure_ (i := 2) (N := some 44) (v := ?_) (a' := ?_) (bs 16 7) rfl rfl (by kernel_rfl) (fun _ _ _ h => h) (Or.inl ⟨by rfl, ?_⟩) ?_ ?_
 rotate_left
 ·intro w'
  go_simp
  with_reducible rfl
 rotate_left
 ·simp only [Act.put, qA_, q0_, q1_, i64_w, i32_w]
  rfl
 refine pure_ (i := 3) (N := some 45) (v := ?_) (a' := ?_) (bs 16 15) rfl rfl (by kernel_rfl) (fun _ _ _ h => h) (Or.inl ⟨by rfl, ?_⟩) ?_ ?_
 rotate_left
 ·intro w'
  go_simp
  with_reducible rfl
 rotate_left
 ·simp only [Act.put, qA_, q0_, q1_, i64_w, i32_w]
  rfl
 refine pure_ (i := 4) (N := some 46) (v := ?_) (a' := ?_) (bs 16 31) rfl rfl (by kernel_rfl) (fun _ _ _ h => h) (Or.inl ⟨by rfl, ?_⟩) ?_ ?_
 rotate_left
 ·intro w'
  go_simp
  with_reducible rfl
 rotate_left
 ·simp only [Act.put, qA_, q0_, q1_, i64_w, i32_w]
  rfl
 refine take_ (i := 5) (N := some 47) (v := ?_) (a' := ?_) (bs 16 63) rfl rfl (by kernel_rfl) (fun _ _ _ h => h) (Or.inl ⟨by rfl, ?_⟩) hHeld ?_ ?_
 rotate_left
 ·intro w' s0
  go_simp
  with_reducible rfl
 rotate_left
 ·simp only [Act.put, qA_, q0_, q1_, i64_w, i32_w]
  rfl
 refine pure_ (i := 6) (N := some 48) (v := ?_) (a' := ?_) (bs 16 127) rfl rfl (by kernel_rfl) (fun _ _ _ h => h) (Or.inl ⟨by rfl, ?_⟩) ?_ ?_
 rotate_left
 ·intro w'
  go_simp
  with_reducible rfl
 rotate_left
 ·simp only [Act.put, qA_, q0_, q1_, i64_w, i32_w]
  rfl
 refine pure_ (i := 7) (N := some 49) (v := ?_) (a' := ?_) (bs 16 255) rfl rfl (by kernel_rfl) (fun _ _ _ h => h) (Or.inl ⟨by rfl, ?_⟩) ?_ ?_
 rotate_left
 ·intro w'
  go_simp
  with_reducible rfl
 rotate_left
 ·simp only [Act.put, qA_, q0_, q1_, i64_w, i32_w]
  rfl
 refine one_ (i := 8) (N := some 50) (bs 16 511) rfl rfl (by kernel_rfl) (by decide) (fun K' hK => ?_)
 refine goes_ Try.func46 (by kernel_rfl) rfl #[.slice A1 l1.length c1, .int .i64 (wrap64 (IntKind.u64.wrap (2 * cnt)))] (by rfl) rfl rfl (by first | rfl | (go_simp; done) | (go_simp; rfl)) ?_
 refine (wigwagref05_take.calls k A1 c1 l1 (wrap64 (IntKind.u64.wrap (2 * cnt))) vs n1 true _ (hA1 _ (Kd.C_below h0 HS.out)) hc1 T2).mono ?_
 rintro e w2 ⟨vU2, rfl, o1, hb⟩
 have U2 : NU w w2 vU2 _ := ⟨Kd.R_lower o1 HS.le⟩
 replace HS := HS.below hb; replace Bf := Bf.below hb; replace U1 := U1.below hb
 refine ⟨_, rfl, ?_⟩
 refine hK.out _ _ (U1.head rfl) (fun hHeld => ?_)
 clear hK K' hb o1
 refine norm_ (a' := ?_) ?_ ?_
 rotate_left
 ·show Act.put _ (some 50) _ = _
  simp only [Act.put, qA_, q0_, q1_, i64_w, i32_w]
  rfl
 refine pure_ (i := 9) (N := some 41) (v := ?_) (a' := ?_) (bs 16 1023) rfl rfl (by kernel_rfl) (fun _ _ _ h => h) (Or.inl ⟨by rfl, ?_⟩) ?_ ?_
 rotate_left
 ·intro w'
  go_simp
  with_reducible rfl
 rotate_left
 ·simp only [Act.put, qA_, q0_, q1_, i64_w, i32_w]
  rfl
 refine pure_ (i := 10) (N := some 51) (v := ?_) (a' := ?_) (bs 16 2047) rfl rfl (by kernel_rfl) (fun _ _ _ h => h) (Or.inl ⟨by rfl, ?_⟩) ?_ ?_
 rotate_left
 ·intro w'
  go_simp
  with_reducible rfl
 rotate_left
 ·simp only [Act.put, qA_, q0_, q1_, i64_w, i32_w]
  rfl
 refine pure_ (i := 11) (N := some 52) (v := ?_) (a' := ?_) (bs 16 4095) rfl rfl (by kernel_rfl) (fun _ _ _ h => h) (Or.inl ⟨by rfl, ?_⟩) ?_ ?_
 rotate_left
 ·intro w'
  go_simp
  with_reducible rfl
 rotate_left
 ·simp only [Act.put, qA_, q0_, q1_, i64_w, i32_w]
  rfl
 refine pure_ (i := 12) (N := some 53) (v := ?_) (a' := ?_) (bs 16 8191) rfl rfl (by kernel_rfl) (fun _ _ _ h => h) (Or.inl ⟨by rfl, ?_⟩) ?_ ?_
 rotate_left
 ·intro w'
  go_simp
  with_reducible rfl
 rotate_left
 ·simp only [Act.put, qA_, q0_, q1_, i64_w, i32_w]
  rfl
 refine pure_ (i := 13) (N := some 10) (v := ?_) (a' := ?_) (bs 16 16383) rfl rfl (by kernel_rfl) (fun _ _ _ h => h) (Or.inl ⟨by rfl, ?_⟩) ?_ ?_
 rotate_left
 ·intro w'
  go_simp
  with_reducible rfl
 rotate_left
 ·simp only [Act.put, qA_, q0_, q1_, i64_w, i32_w]
  rfl
 refine pure_ (i := 14) (N := some 11) (v := ?_) (a' := ?_) (bs 16 32767) rfl rfl (by kernel_rfl) (fun _ _ _ h => h) (Or.inl ⟨by rfl, ?_⟩) ?_ ?_
 rotate_left
 ·intro w'
  go_simp
  with_reducible rfl
 rotate_left
 ·simp only [Act.put, qA_, q0_, q1_, i64_w, i32_w]
  rfl
 refine pure_ (i := 15) (N := some 12) (v := ?_) (a' := ?_) (bs 16 65535) rfl rfl (by kernel_rfl) (fun _ _ _ h => h) (Or.inl ⟨by rfl, ?_⟩) ?_ ?_
 rotate_left
 ·intro w'
  go_simp
  with_reducible rfl
 rotate_left
 ·simp only [Act.put, qA_, q0_, q1_, i64_w, i32_w]
  rfl
 refine done_ (by kernel_rfl) ?_
 obtain ⟨AU2, cU2, rfl⟩ := Kd.R_slice U2.out
 go_wp2_with (first | ((go_at_call 54); (with_reducible refine (wigwagref05_acked.calls k _ _ vs S false _ (Kd.R_reads' U2.out).2.2 (Kd.R_reads' U2.out).2.1 A2).mono ?_); rintro e w' ⟨vS, rfl, oS, hb⟩; have S9 : SR w.heap.size w' vS _ := (SR.of oS).lower HS.le; replace HS := HS.below hb; replace U1 := U1.below hb; replace U2 := U2.below hb; replace Bf := Bf.below hb; clear hb oS; obtain ⟨As, cs, rfl⟩ := Kd.R_slice S9.to) | ((go_at_call 46); (with_reducible refine (wigwagref05_take.calls k A3 c3 l3 2 M n2 b3 _ (hA3 _ (Kd.C_below h0 HS.out)) hc3 T3).mono ?_); rintro e w' ⟨vU3, rfl, o1, hb⟩; have U3 : NU w w' vU3 _ := ⟨Kd.R_lower o1 HS.le⟩; replace HS := HS.below hb; replace U1 := U1.below hb; replace U2 := U2.below hb; replace S9 := S9.below hb; replace Bf := Bf.below hb; clear hb o1) | ((with_reducible refine gate_ (.store 27 (.tmp 4) (.tmp 81)) rfl ?_); refine seg_store rfl rfl 27 (.tmp 4) (.tmp 81) rfl gf 0 [.int .i64 0, .int .u64 0, .int .u64 0, .int .u64 0, .int .u64 0, .int .u64 0, .int .u64 0, .bool false, .slice none 0 0, .slice none 0 0] [.int .i64 0, .int .u64 0, .int .u64 0, .int .u64 0, .int .u64 0, .int .u64 0, .int .u64 0, .bool false, .slice none 0 0, .slice none 0 0] (.agg #[.int .i64 0, .int .u64 0, .int .u64 0, .int .u64 0, .int .u64 0, .int .u64 0, .int .u64 0, .bool false, .slice none 0 0, .slice none 0 0]) rfl rfl rfl Bf (by kernel_rfl) (nle rfl) rfl rfl ?_; intro w' Bq hg; replace U1 := U1.grown Bf (by decide) hg; replace U2 := U2.grown Bf (by decide) hg; replace S9 := S9.grown Bf (by decide) hg; replace U3 := U3.grown Bf (by decide) hg; replace HS := HS.grown hg Gf; clear Bf; have Bf := Bq; clear Bq hg))
 refine bodyPost_ret (results_ctt rfl _ _ gf 27 _ (0, 0) _ rfl Bf.out hu27 rfl (by kernel_rfl)) rfl ?_
 exact ⟨rfl, HS.out⟩
theorem rack_bad3b (k : Nat) (A : Option Addr) (c : Nat) (l : List Int) (w : World) (h0 : Kd.C (Kd.int .u8) w A l.length l) (hc : l.length ≤ c) (cnt at1 : Int) (T1 : wigwagref05_take.f k l 1 = some ([cnt], at1, true)) (e1 : decide (cnt < 1) = false) (e2 : decide (32 < cnt) = false) (A1 : Option Addr) (c1 : Nat) (l1 : List Int) (hcut : ∀ W : World, (Instr.slice 24 (.slice A l.length c) (some (.int .i64 at1)) none none).run Try.prog W = .ok (.slice A1 l1.length c1) W) (hA1 : ∀ w, Kd.C (Kd.int .u8) w A l.length l → Kd.C (Kd.int .u8) w A1 l1.length l1) (hc1 : l1.length ≤ c1) (vs : List Int) (n1 : Int) (T2 : wigwagref05_take.f k l1 (wrap64 (IntKind.u64.wrap (2 * cnt))) = some (vs, n1, true)) (A3 : Option Addr) (c3 : Nat) (l3 : List Int) (hcut3 : ∀ W : World, (Instr.slice 24 (.slice A l.length c) (some (.int .i64 (wrap64 (at1 + n1)))) none none).run Try.prog W = .ok (.slice A3 l3.length c3) W) (hA3 : ∀ w, Kd.C (Kd.int .u8) w A l.length l → Kd.C (Kd.int .u8) w A3 l3.length l3) (hc3 : l3.length ≤ c3) (S : List S47) (A2 : wigwagref05_acked.f k vs = some (S, true)) (M : List Int) (n2 : Int) (T3 : wigwagref05_take.f k l3 2 = some (M, n2, false))  :
  Calls Try.prog 45 #[.int .i64 3, .slice A l.length c] w fun e w' => e = .returned (.tuple #[.agg #[.int .i64 0, .int .u64 0, .int .u64 0, .int .u64 0, .int .u64 0, .int .u64 0, .int .u64 0, .bool false, .slice none 0 0, .slice none 0 0], .int .i64 0, .bool false]) ∧ Below w.heap.size w w' := by
 have hu27 := Try.underlying27
 have HS := Since.refl w
 go_enter Try.func45, Try.ntmps45
 go_wp2_with (first | ((with_reducible refine gate_dst (N := 4) rfl ?_); (try (refine gate_guard (by rfl) ?_; dsimp only)); refine seg_new rfl (N := 4) rfl [.int .i64 0, .int .u64 0, .int .u64 0, .int .u64 0, .int .u64 0, .int .u64 0, .int .u64 0, .bool false, .slice none 0 0, .slice none 0 0] 27 ?hr ?_; (case hr => rfl); intro gf hg1 w' Bf hb; have Gf := ge_new HS hg1; replace HS := HS.below hb; clear hg1 hb) | ((go_at_call 46); (with_reducible refine (wigwagref05_take.calls k A c l 1 [cnt] at1 true _ (Kd.C_below h0 HS.out) hc T1).mono ?_); rintro e w' ⟨vU1, rfl, o1, hb⟩; have U1 : NU w w' vU1 _ := ⟨Kd.R_lower o1 HS.le⟩; replace HS := HS.below hb; replace Bf := Bf.below hb; clear hb o1; obtain ⟨adU1, cU1, rfl⟩ := U1.open (by simp); have x1 := U1.head (x := cnt) rfl))
 refine start_ (n := 16) (S := fun w' => w'.cell? adU1 = some (.int .u64 cnt)) (ds := []) (bs 16 0) (by kernel_rfl) rfl rfl (U1.drew.head rfl) (fun hHeld => ?_)
 have U1' := U1.drew; have Bf' := Bf.drew; have HS' := HS.drew
 clear U1 Bf HS
 have U1 := U1'; have Bf := Bf'; have HS := HS'
 clear U1' Bf' HS'
 generalize World.drew w' = w' at U1 Bf HS hHeld ⊢
 refine pure_ (i := 0) (N := some 42) (v := ?_) (a' := ?_) (bs 16 1) rfl rfl (by kernel_rfl) (fun _ _ _ h => h) (Or.inl ⟨by rfl, ?_⟩) ?_ ?_
 rotate_left
 ·intro w'
  go_simp
  with_reducible rfl
 rotate_left
 ·simp only [Act.put, qA_, q0_, q1_, i64_w, i32_w]
  rfl
 refine pure_ (i := 1) (N := some 43) (v := ?_) (a' := ?_) (bs 16 3) rfl rfl (by kernel_rfl) (fun _ _ _ h => h) (Or.inl ⟨by rfl, ?_⟩) ?_ ?_
 rotate_left
 ·intro w'
  go_simp
  with_reducible rfl
 rotate_left
 ·simp only [Act.put, qA_, q0_, q1_, i64_w, i32_w]
  rfl
 refine pure_ (i := 2) (N := some 44) (v := ?_) (a' := ?_) (bs 16 7) rfl rfl (by kernel_rfl) (fun _ _ _ h => h) (Or.inl ⟨by rfl, ?_⟩) ?_ ?_
 rotate_left
 ·intro w'
  go_simp
  with_reducible rfl
 rotate_left
 ·simp only [Act.put, qA_, q0_, q1_, i64_w, i32_w]
  rfl
 refine pure_ (i := 3) (N := some 45) (v := ?_) (a' := ?_) (bs 16 15) rfl rfl (by kernel_rfl) (fun _ _ _ h => h) (Or.inl ⟨by rfl, ?_⟩) ?_ ?_
 rotate_left
 ·intro w'
  go_simp
  with_reducible rfl
 rotate_left
 ·simp only [Act.put, qA_, q0_, q1_, i64_w, i32_w]
  rfl
 refine pure_ (i := 4) (N := some 46) (v := ?_) (a' := ?_) (bs 16 31) rfl rfl (by kernel_rfl) (fun _ _ _ h => h) (Or.inl ⟨by rfl, ?_⟩) ?_ ?_
 rotate_left
 ·intro w'
  go_simp
  with_reducible rfl
 rotate_left
 ·simp only [Act.put, qA_, q0_, q1_, i64_w, i32_w]
  rfl
 refine take_ (i := 5) (N := some 47) (v := ?_) (a' := ?_) (bs 16 63) rfl rfl (by kernel_rfl) (fun _ _ _ h => h) (Or.inl ⟨by rfl, ?_⟩) hHeld ?_ ?_
 rotate_left
 ·intro w' s0
  go_simp
  with_reducible rfl
 rotate_left
 ·simp only [Act.put, qA_, q0_, q1_, i64_w, i32_w]
  rfl
 refine pure_ (i := 6) (N := some 48) (v := ?_) (a' := ?_) (bs 16 127) rfl rfl (by kernel_rfl) (fun _ _ _ h => h) (Or.inl ⟨by rfl, ?_⟩) ?_ ?_
 rotate_left
 ·intro w'
  go_simp
  with_reducible rfl
 rotate_left
 ·simp only [Act.put, qA_, q0_, q1_, i64_w, i32_w]
  rfl
 refine pure_ (i := 7) (N := some 49) (v := ?_) (a' := ?_) (bs 16 255) rfl rfl (by kernel_rfl) (fun _ _ _ h => h) (Or.inl ⟨by rfl, ?_⟩) ?_ ?_
 rotate_left
 ·intro w'
  go_simp
  with_reducible rfl
 rotate_left
 ·simp only [Act.put, qA_, q0_, q1_, i64_w, i32_w]
  rfl
 refine one_ (i := 8) (N := some 50) (bs 16 511) rfl rfl (by kernel_rfl) (by decide) (fun K' hK => ?_)
 refine goes_ Try.func46 (by kernel_rfl) rfl #[.slice A1 l1.length c1, .int .i64 (wrap64 (IntKind.u64.wrap (2 * cnt)))] (by rfl) rfl rfl (by first | rfl | (go_simp; done) | (go_simp; rfl)) ?_
 refine (wigwagref05_take.calls k A1 c1 l1 (wrap64 (IntKind.u64.wrap (2 * cnt))) vs n1 true _ (hA1 _ (Kd.C_below h0 HS.out)) hc1 T2).mono ?_
 rintro e w2 ⟨vU2, rfl, o1, hb⟩
 have U2 : NU w w2 vU2 _ := ⟨Kd.R_lower o1 HS.le⟩
 replace HS := HS.below hb; replace Bf := Bf.below hb; replace U1 := U1.below hb
 refine ⟨_, rfl, ?_⟩
 refine hK.out _ _ (U1.head rfl) (fun hHeld => ?_)
 clear hK K' hb o1
 refine norm_ (a' := ?_) ?_ ?_
 rotate_left
 ·show Act.put _ (some 50) _ = _
  simp only [Act.put, qA_, q0_, q1_, i64_w, i32_w]
  rfl
 refine pure_ (i := 9) (N := some 41) (v := ?_) (a' := ?_) (bs 16 1023) rfl rfl (by kernel_rfl) (fun _ _ _ h => h) (Or.inl ⟨by rfl, ?_⟩) ?_ ?_
 rotate_left
 ·intro w'
  go_simp
  with_reducible rfl
 rotate_left
 ·simp only [Act.put, qA_, q0_, q1_, i64_w, i32_w]
  rfl
 refine pure_ (i := 10) (N := some 51) (v := ?_) (a' := ?_) (bs 16 2047) rfl rfl (by kernel_rfl) (fun _ _ _ h => h) (Or.inl ⟨by rfl, ?_⟩) ?_ ?_
 rotate_left
 ·intro w'
  go_simp
  with_reducible rfl
 rotate_left
 ·simp only [Act.put, qA_, q0_, q1_, i64_w, i32_w]
  rfl
 refine pure_ (i := 11) (N := some 52) (v := ?_) (a' := ?_) (bs 16 4095) rfl rfl (by kernel_rfl) (fun _ _ _ h => h) (Or.inl ⟨by rfl, ?_⟩) ?_ ?_
 rotate_left
 ·intro w'
  go_simp
  with_reducible rfl
 rotate_left
 ·simp only [Act.put, qA_, q0_, q1_, i64_w, i32_w]
  rfl
 refine pure_ (i := 12) (N := some 53) (v := ?_) (a' := ?_) (bs 16 8191) rfl rfl (by kernel_rfl) (fun _ _ _ h => h) (Or.inl ⟨by rfl, ?_⟩) ?_ ?_
 rotate_left
 ·intro w'
  go_simp
  with_reducible rfl
 rotate_left
 ·simp only [Act.put, qA_, q0_, q1_, i64_w, i32_w]
  rfl
 refine pure_ (i := 13) (N := some 10) (v := ?_) (a' := ?_) (bs 16 16383) rfl rfl (by kernel_rfl) (fun _ _ _ h => h) (Or.inl ⟨by rfl, ?_⟩) ?_ ?_
 rotate_left
 ·intro w'
  go_simp
  with_reducible rfl
 rotate_left
 ·simp only [Act.put, qA_, q0_, q1_, i64_w, i32_w]
  rfl
 refine pure_ (i := 14) (N := some 11) (v := ?_) (a' := ?_) (bs 16 32767) rfl rfl (by kernel_rfl) (fun _ _ _ h => h) (Or.inl ⟨by rfl, ?_⟩) ?_ ?_
 rotate_left
 ·intro w'
  go_simp
  with_reducible rfl
 rotate_left
 ·simp only [Act.put, qA_, q0_, q1_, i64_w, i32_w]
  rfl
 refine pure_ (i := 15) (N := some 12) (v := ?_) (a' := ?_) (bs 16 65535) rfl rfl (by kernel_rfl) (fun _ _ _ h => h) (Or.inl ⟨by rfl, ?_⟩) ?_ ?_
 rotate_left
 ·intro w'
  go_simp
  with_reducible rfl
 rotate_left
 ·simp only [Act.put, qA_, q0_, q1_, i64_w, i32_w]
  rfl
 refine done_ (by kernel_rfl) ?_
 obtain ⟨AU2, cU2, rfl⟩ := Kd.R_slice U2.out
 go_wp2_with (first | ((go_at_call 54); (with_reducible refine (wigwagref05_acked.calls k _ _ vs S true _ (Kd.R_reads' U2.out).2.2 (Kd.R_reads' U2.out).2.1 A2).mono ?_); rintro e w' ⟨vS, rfl, oS, hb⟩; have S9 : SR w.heap.size w' vS _ := (SR.of oS).lower HS.le; replace HS := HS.below hb; replace U1 := U1.below hb; replace U2 := U2.below hb; replace Bf := Bf.below hb; clear hb oS; obtain ⟨As, cs, rfl⟩ := Kd.R_slice S9.to) | ((go_at_call 46); (with_reducible refine (wigwagref05_take.calls k A3 c3 l3 2 M n2 false _ (hA3 _ (Kd.C_below h0 HS.out)) hc3 T3).mono ?_); rintro e w' ⟨vU3, rfl, o1, hb⟩; have U3 : NU w w' vU3 _ := ⟨Kd.R_lower o1 HS.le⟩; replace HS := HS.below hb; replace U1 := U1.below hb; replace U2 := U2.below hb; replace S9 := S9.below hb; replace Bf := Bf.below hb; clear hb o1) | ((with_reducible refine gate_ (.store 27 (.tmp 4) (.tmp 81)) rfl ?_); refine seg_store rfl rfl 27 (.tmp 4) (.tmp 81) rfl gf 0 [.int .i64 0, .int .u64 0, .int .u64 0, .int .u64 0, .int .u64 0, .int .u64 0, .int .u64 0, .bool false, .slice none 0 0, .slice none 0 0] [.int .i64 0, .int .u64 0, .int .u64 0, .int .u64 0, .int .u64 0, .int .u64 0, .int .u64 0, .bool false, .slice none 0 0, .slice none 0 0] (.agg #[.int .i64 0, .int .u64 0, .int .u64 0, .int .u64 0, .int .u64 0, .int .u64 0, .int .u64 0, .bool false, .slice none 0 0, .slice none 0 0]) rfl rfl rfl Bf (by kernel_rfl) (nle rfl) rfl rfl ?_; intro w' Bq hg; replace U1 := U1.grown Bf (by decide) hg; replace U2 := U2.grown Bf (by decide) hg; replace S9 := S9.grown Bf (by decide) hg; replace U3 := U3.grown Bf (by decide) hg; replace HS := HS.grown hg Gf; clear Bf; have Bf := Bq; clear Bq hg))
 refine bodyPost_ret (results_ctt rfl _ _ gf 27 _ (0, 0) _ rfl Bf.out hu27 rfl (by kernel_rfl)) rfl ?_
 exact ⟨rfl, HS.out⟩
theorem rack_ok3 (k : Nat) (A : Option Addr) (c : Nat) (l : List Int) (w : World) (h0 : Kd.C (Kd.int .u8) w A l.length l) (hc : l.length ≤ c) (cnt at1 : Int) (T1 : wigwagref05_take.f k l 1 = some ([cnt], at1, true)) (e1 : decide (cnt < 1) = false) (e2 : decide (32 < cnt) = false) (A1 : Option Addr) (c1 : Nat) (l1 : List Int) (hcut : ∀ W : World, (Instr.slice 24 (.slice A l.length c) (some (.int .i64 at1)) none none).run Try.prog W = .ok (.slice A1 l1.length c1) W) (hA1 : ∀ w, Kd.C (Kd.int .u8) w A l.length l → Kd.C (Kd.int .u8) w A1 l1.length l1) (hc1 : l1.length ≤ c1) (vs : List Int) (n1 : Int) (T2 : wigwagref05_take.f k l1 (wrap64 (IntKind.u64.wrap (2 * cnt))) = some (vs, n1, true)) (A3 : Option Addr) (c3 : Nat) (l3 : List Int) (hcut3 : ∀ W : World, (Instr.slice 24 (.slice A l.length c) (some (.int .i64 (wrap64 (at1 + n1)))) none none).run Try.prog W = .ok (.slice A3 l3.length c3) W) (hA3 : ∀ w, Kd.C (Kd.int .u8) w A l.length l → Kd.C (Kd.int .u8) w A3 l3.length l3) (hc3 : l3.length ≤ c3) (S : List S47) (A2 : wigwagref05_acked.f k vs = some (S, true)) (d e3 n2 : Int) (T3 : wigwagref05_take.f k l3 2 = some ([d, e3], n2, true))  :
  Calls Try.prog 45 #[.int .i64 3, .slice A l.length c] w fun e w' => ∃ As cs, e = .returned (.tuple #[.agg #[.int .i64 3, .int .u64 0, .int .u64 0, .int .u64 0, .int .u64 0, .int .u64 d, .int .u64 e3, .bool false, .slice none 0 0, .slice As S.length cs], .int .i64 (wrap64 (wrap64 (at1 + n1) + n2)), .bool true]) ∧ SR w.heap.size w' (.slice As S.length cs) S ∧ Below w.heap.size w w' := by
 have hu27 := Try.underlying27
 have HS := Since.refl w
 go_enter Try.func45, Try.ntmps45
 go_wp2_with (first | ((with_reducible refine gate_dst (N := 4) rfl ?_); (try (refine gate_guard (by rfl) ?_; dsimp only)); refine seg_new rfl (N := 4) rfl [.int .i64 0, .int .u64 0, .int .u64 0, .int .u64 0, .int .u64 0, .int .u64 0, .int .u64 0, .bool false, .slice none 0 0, .slice none 0 0] 27 ?hr ?_; (case hr => rfl); intro gf hg1 w' Bf hb; have Gf := ge_new HS hg1; replace HS := HS.below hb; clear hg1 hb) | ((go_at_call 46); (with_reducible refine (wigwagref05_take.calls k A c l 1 [cnt] at1 true _ (Kd.C_below h0 HS.out) hc T1).mono ?_); rintro e w' ⟨vU1, rfl, o1, hb⟩; have U1 : NU w w' vU1 _ := ⟨Kd.R_lower o1 HS.le⟩; replace HS := HS.below hb; replace Bf := Bf.below hb; clear hb o1; obtain ⟨adU1, cU1, rfl⟩ := U1.open (by simp); have x1 := U1.head (x := cnt) rfl))
 refine start_ (n := 16) (S := fun w' => w'.cell? adU1 = some (.int .u64 cnt)) (ds := []) (bs 16 0) (by kernel_rfl) rfl rfl (U1.drew.head rfl) (fun hHeld => ?_)
 have U1' := U1.drew; have Bf' := Bf.drew; have HS' := HS.drew
 clear U1 Bf HS
 have U1 := U1'; have Bf := Bf'; have HS := HS'
 clear U1' Bf' HS'
 generalize World.drew w' = w' at U1 Bf HS hHeld ⊢
 refine pure_ (i := 0) (N := some 42) (v := ?_) (a' := ?_) (bs 16 1) rfl rfl (by kernel_rfl) (fun _ _ _ h => h) (Or.inl ⟨by rfl, ?_⟩) ?_ ?_
 rotate_left
 ·intro w'
  go_simp
  with_reducible rfl
 rotate_left
 ·simp only [Act.put, qA_, q0_, q1_, i64_w, i32_w]
  rfl
 refine pure_ (i := 1) (N := some 43) (v := ?_) (a' := ?_) (bs 16 3) rfl rfl (by kernel_rfl) (fun _ _ _ h => h) (Or.inl ⟨by rfl, ?_⟩) ?_ ?_
 rotate_left
 ·intro w'
  go_simp
  with_reducible rfl
 rotate_left
 ·simp only [Act.put, qA_, q0_, q1_, i64_w, i32_w]
  rfl
 refine pure_ (i := 2) (N := some 44) (v := ?_) (a' := ?_) (bs 16 7) rfl rfl (by kernel_rfl) (fun _ _ _ h => h) (Or.inl ⟨by rfl, ?_⟩) ?_ ?_
 rotate_left
 ·intro w'
  go_simp
  with_reducible rfl
 rotate_left
 ·simp only [Act.put, qA_, q0_, q1_, i64_w, i32_w]
  rfl
 refine pure_ (i := 3) (N := some 45) (v := ?_) (a' := ?_) (bs 16 15) rfl rfl (by kernel_rfl) (fun _ _ _ h => h) (Or.inl ⟨by rfl, ?_⟩) ?_ ?_
 rotate_left
 ·intro w'
  go_simp
  with_reducible rfl
 rotate_left
 ·simp only [Act.put, qA_, q0_, q1_, i64_w, i32_w]
  rfl
 refine pure_ (i := 4) (N := some 46) (v := ?_) (a' := ?_) (bs 16 31) rfl rfl (by kernel_rfl) (fun _ _ _ h => h) (Or.inl ⟨by rfl, ?_⟩) ?_ ?_
 rotate_left
 ·intro w'
  go_simp
  with_reducible rfl
 rotate_left
 ·simp only [Act.put, qA_, q0_, q1_, i64_w, i32_w]
  rfl
 refine take_ (i := 5) (N := some 47) (v := ?_) (a' := ?_) (bs 16 63) rfl rfl (by kernel_rfl) (fun _ _ _ h => h) (Or.inl ⟨by rfl, ?_⟩) hHeld ?_ ?_
 rotate_left
 ·intro w' s0
  go_simp
  with_reducible rfl
 rotate_left
 ·simp only [Act.put, qA_, q0_, q1_, i64_w, i32_w]
  rfl
 refine pure_ (i := 6) (N := some 48) (v := ?_) (a' := ?_) (bs 16 127) rfl rfl (by kernel_rfl) (fun _ _ _ h => h) (Or.inl ⟨by rfl, ?_⟩) ?_ ?_
 rotate_left
 ·intro w'
  go_simp
  with_reducible rfl
 rotate_left
 ·simp only [Act.put, qA_, q0_, q1_, i64_w, i32_w]
  rfl
 refine pure_ (i := 7) (N := some 49) (v := ?_) (a' := ?_) (bs 16 255) rfl rfl (by kernel_rfl) (fun _ _ _ h => h) (Or.inl ⟨by rfl, ?_⟩) ?_ ?_
 rotate_left
 ·intro w'
  go_simp
  with_reducible rfl
 rotate_left
 ·simp only [Act.put, qA_, q0_, q1_, i64_w, i32_w]
  rfl
 refine one_ (i := 8) (N := some 50) (bs 16 511) rfl rfl (by kernel_rfl) (by decide) (fun K' hK => ?_)
 refine goes_ Try.func46 (by kernel_rfl) rfl #[.slice A1 l1.length c1, .int .i64 (wrap64 (IntKind.u64.wrap (2 * cnt)))] (by rfl) rfl rfl (by first | rfl | (go_simp; done) | (go_simp; rfl)) ?_
 refine (wigwagref05_take.calls k A1 c1 l1 (wrap64 (IntKind.u64.wrap (2 * cnt))) vs n1 true _ (hA1 _ (Kd.C_below h0 HS.out)) hc1 T2).mono ?_
 rintro e w2 ⟨vU2, rfl, o1, hb⟩
 have U2 : NU w w2 vU2 _ := ⟨Kd.R_lower o1 HS.le⟩
 replace HS := HS.below hb; replace Bf := Bf.below hb; replace U1 := U1.below hb
 refine ⟨_, rfl, ?_⟩
 refine hK.out _ _ (U1.head rfl) (fun hHeld => ?_)
 clear hK K' hb o1
 refine norm_ (a' := ?_) ?_ ?_
 rotate_left
 ·show Act.put _ (some 50) _ = _
  simp only [Act.put, qA_, q0_, q1_, i64_w, i32_w]
  rfl
 refine pure_ (i := 9) (N := some 41) (v := ?_) (a' := ?_) (bs 16 1023) rfl rfl (by kernel_rfl) (fun _ _ _ h => h) (Or.inl ⟨by rfl, ?_⟩) ?_ ?_
 rotate_left
 ·intro w'
  go_simp
  with_reducible rfl
 rotate_left
 ·simp only [Act.put, qA_, q0_, q1_, i64_w, i32_w]
  rfl
 refine pure_ (i := 10) (N := some 51) (v := ?_) (a' := ?_) (bs 16 2047) rfl rfl (by kernel_rfl) (fun _ _ _ h => h) (Or.inl ⟨by rfl, ?_⟩) ?_ ?_
 rotate_left
 ·intro w'
  go_simp
  with_reducible rfl
 rotate_left
 ·simp only [Act.put, qA_, q0_, q1_, i64_w, i32_w]
  rfl
 refine pure_ (i := 11) (N := some 52) (v := ?_) (a' := ?_) (bs 16 4095) rfl rfl (by kernel_rfl) (fun _ _ _ h => h) (Or.inl ⟨by rfl, ?_⟩) ?_ ?_
 rotate_left
 ·intro w'
  go_simp
  with_reducible rfl
 rotate_left
 ·simp only [Act.put, qA_, q0_, q1_, i64_w, i32_w]
  rfl
 refine pure_ (i := 12) (N := some 53) (v := ?_) (a' := ?_) (bs 16 8191) rfl rfl (by kernel_rfl) (fun _ _ _ h => h) (Or.inl ⟨by rfl, ?_⟩) ?_ ?_
 rotate_left
 ·intro w'
  go_simp
  with_reducible rfl
 rotate_left
 ·simp only [Act.put, qA_, q0_, q1_, i64_w, i32_w]
  rfl
 refine pure_ (i := 13) (N := some 10) (v := ?_) (a' := ?_) (bs 16 16383) rfl rfl (by kernel_rfl) (fun _ _ _ h => h) (Or.inl ⟨by rfl, ?_⟩) ?_ ?_
 rotate_left
 ·intro w'
  go_simp
  with_reducible rfl
 rotate_left
 ·simp only [Act.put, qA_, q0_, q1_, i64_w, i32_w]
  rfl
 refine pure_ (i := 14) (N := some 11) (v := ?_) (a' := ?_) (bs 16 32767) rfl rfl (by kernel_rfl) (fun _ _ _ h => h) (Or.inl ⟨by rfl, ?_⟩) ?_ ?_
 rotate_left
 ·intro w'
  go_simp
  with_reducible rfl
 rotate_left
 ·simp only [Act.put, qA_, q0_, q1_, i64_w, i32_w]
  rfl
 refine pure_ (i := 15) (N := some 12) (v := ?_) (a' := ?_) (bs 16 65535) rfl rfl (by kernel_rfl) (fun _ _ _ h => h) (Or.inl ⟨by rfl, ?_⟩) ?_ ?_
 rotate_left
 ·intro w'
  go_simp
  with_reducible rfl
 rotate_left
 ·simp only [Act.put, qA_, q0_, q1_, i64_w, i32_w]
  rfl
 refine done_ (by kernel_rfl) ?_
 obtain ⟨AU2, cU2, rfl⟩ := Kd.R_slice U2.out
 go_wp2_with (first | ((go_at_call 54); (with_reducible refine (wigwagref05_acked.calls k _ _ vs S true _ (Kd.R_reads' U2.out).2.2 (Kd.R_reads' U2.out).2.1 A2).mono ?_); rintro e w' ⟨vS, rfl, oS, hb⟩; have S9 : SR w.heap.size w' vS _ := (SR.of oS).lower HS.le; replace HS := HS.below hb; replace U1 := U1.below hb; replace U2 := U2.below hb; replace Bf := Bf.below hb; clear hb oS; obtain ⟨As, cs, rfl⟩ := Kd.R_slice S9.to) | ((go_at_call 46); (with_reducible refine (wigwagref05_take.calls k A3 c3 l3 2 [d, e3] n2 true _ (hA3 _ (Kd.C_below h0 HS.out)) hc3 T3).mono ?_); rintro e w' ⟨vU3, rfl, o1, hb⟩; have U3 : NU w w' vU3 _ := ⟨Kd.R_lower o1 HS.le⟩; replace HS := HS.below hb; replace U1 := U1.below hb; replace U2 := U2.below hb; replace S9 := S9.below hb; replace Bf := Bf.below hb; clear hb o1; obtain ⟨adU3, cU3, rfl⟩ := U3.open (by simp); have y0 := U3.head (x := d) rfl; have y1 : w'.cell? ⟨adU3.block, adU3.off + 1, none⟩ = some (.int .u64 e3) := U3.cell 1 (x := e3) rfl) | ((with_reducible refine gate_dst (N := 19) rfl ?_); (try (refine gate_guard (by rfl) ?_; dsimp only)); refine seg_new rfl (N := 19) rfl [.int .i64 0, .int .u64 0, .int .u64 0, .int .u64 0, .int .u64 0, .int .u64 0, .int .u64 0, .bool false, .slice none 0 0, .slice none 0 0] 27 ?hr ?_; (case hr => rfl); intro gn hg1 w' Bn hb; have Gn := ge_new HS hg1; have Nn_f := ne_new Bf hg1; replace HS := HS.below hb; replace U1 := U1.below hb; replace U2 := U2.below hb; replace S9 := S9.below hb; replace U3 := U3.below hb; replace Bf := Bf.below hb; clear hg1 hb) | ((with_reducible refine gate_ (.store 27 (.tmp 19) (.tmp 87)) rfl ?_); refine seg_store rfl rfl 27 (.tmp 19) (.tmp 87) rfl gn 0 [.int .i64 3, .int .u64 0, .int .u64 0, .int .u64 0, .int .u64 0, .int .u64 d, .int .u64 0, .bool false, .slice none 0 0, .slice As S.length cs] [.int .i64 3, .int .u64 0, .int .u64 0, .int .u64 0, .int .u64 0, .int .u64 d, .int .u64 0, .bool false, .slice none 0 0, .slice As S.length cs] (.agg #[.int .i64 3, .int .u64 0, .int .u64 0, .int .u64 0, .int .u64 0, .int .u64 d, .int .u64 0, .bool false, .slice none 0 0, .slice As S.length cs]) rfl rfl rfl Bn (by kernel_rfl) (nle rfl) rfl rfl ?_; intro w' Bq hg; replace U1 := U1.grown Bn (by decide) hg; replace U2 := U2.grown Bn (by decide) hg; replace S9 := S9.grown Bn (by decide) hg; replace U3 := U3.grown Bn (by decide) hg; replace Bf := Bf.grown hg Nn_f.symm; replace HS := HS.grown hg Gn; clear Bn; have Bn := Bq; clear Bq hg; have y1 : w'.cell? ⟨adU3.block, adU3.off + 1, none⟩ = some (.int .u64 e3) := U3.cell 1 (x := e3) rfl) | ((with_reducible refine gate_ (.store 23 (.tmp 93) (.tmp 92)) rfl ?_); refine seg_store rfl rfl 23 (.tmp 93) (.tmp 92) rfl gn 6 [.int .u64 e3] [.int .i64 3, .int .u64 0, .int .u64 0, .int .u64 0, .int .u64 0, .int .u64 d, .int .u64 e3, .bool false, .slice none 0 0, .slice As S.length cs] (.int .u64 e3) rfl rfl rfl Bn (by kernel_rfl) (nle rfl) rfl rfl ?_; intro w' Bq hg; replace U1 := U1.grown Bn (by decide) hg; replace U2 := U2.grown Bn (by decide) hg; replace S9 := S9.grown Bn (by decide) hg; replace U3 := U3.grown Bn (by decide) hg; replace Bf := Bf.grown hg Nn_f.symm; replace HS := HS.grown hg Gn; clear Bn; have Bn := Bq; clear Bq hg) | ((with_reducible refine gate_dst (N := 94) rfl ?_); (try (refine gate_guard (by rfl) ?_; dsimp only)); refine seg_load rfl (N := 94) rfl 27 (.tmp 19) rfl gn 0 [.int .i64 3, .int .u64 0, .int .u64 0, .int .u64 0, .int .u64 0, .int .u64 d, .int .u64 e3, .bool false, .slice none 0 0, .slice As S.length cs] rfl Bn rfl Try.underlying27 rfl (by kernel_rfl) ?_) | ((with_reducible refine gate_ (.store 27 (.tmp 4) (.tmp 94)) rfl ?_); refine seg_store rfl rfl 27 (.tmp 4) (.tmp 94) rfl gf 0 [.int .i64 3, .int .u64 0, .int .u64 0, .int .u64 0, .int .u64 0, .int .u64 d, .int .u64 e3, .bool false, .slice none 0 0, .slice As S.length cs] [.int .i64 3, .int .u64 0, .int .u64 0, .int .u64 0, .int .u64 0, .int .u64 d, .int .u64 e3, .bool false, .slice none 0 0, .slice As S.length cs] (.agg #[.int .i64 3, .int .u64 0, .int .u64 0, .int .u64 0, .int .u64 0, .int .u64 d, .int .u64 e3, .bool false, .slice none 0 0, .slice As S.length cs]) rfl rfl rfl Bf (by kernel_rfl) (nle rfl) rfl rfl ?_; intro w' Bq hg; replace U1 := U1.grown Bf (by decide) hg; replace U2 := U2.grown Bf (by decide) hg; replace S9 := S9.grown Bf (by decide) hg; replace U3 := U3.grown Bf (by decide) hg; replace Bn := Bn.grown hg Nn_f; replace HS := HS.grown hg Gf; clear Bf; have Bf := Bq; clear Bq hg))
 refine bodyPost_ret (results_ctt rfl _ _ gf 27 _ (0, 0) _ rfl Bf.out hu27 rfl (by kernel_rfl)) rfl ?_
 exact ⟨As, cs, rfl, S9, HS.out⟩
end Go.Proofs.Ytphakdfholkbdaa
end
