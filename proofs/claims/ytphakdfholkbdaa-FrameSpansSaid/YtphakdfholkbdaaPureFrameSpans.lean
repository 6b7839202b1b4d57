/- An ack's spans are parsed as they were, and its bytes are as many as its numbers': for every row of gaps and lengths and every delay, with no condition. -/
import Derived.Test.YtphakdfholkbdaaFrQ
import Derived.Test.YtphakdfholkbdaaPFrax38
namespace Go.Proofs.Ytphakdfholkbdaa.Pure
set_option linter.unusedVariables false
set_option linter.unusedSimpArgs false
open Go.RowKit Go.Proofs.Ytphakdfholkbdaa Go.Proofs.Ytphakdfholkbdaa.PFra Go.Proofs.YtphakdfholkbdaaW.PrintWords Go.Proofs.YtphakdfholkbdaaW.PrintLast
theorem okS_snoc : ∀ {l : List S47} {p : Option Int} {x : S47}, okS p l = true → (∀ y ∈ l, y.f1 < x.f0) → (∀ q, p = some q → q < x.f0) → x.f0 < x.f1 → x.f1 ≤ 4611686018427387904 → okS p (l ++ [x]) = true
  | [], p, x, _, _, hp, h1, h2 => by
    rw [List.nil_append, okS.eq_def]
    simp only [Bool.and_eq_true, decide_eq_true_eq]
    refine ⟨⟨⟨h1, h2⟩, ?_⟩, rfl⟩
    cases p with
    | none => rfl
    | some q => exact decide_eq_true (hp q rfl)
  | y :: l, p, x, h, hl, hp, h1, h2 => by
    rw [okS.eq_def] at h
    simp only [Bool.and_eq_true] at h
    rw [List.cons_append, okS.eq_def]
    simp only [Bool.and_eq_true]
    exact ⟨h.1, okS_snoc h.2 (fun z hz => hl z (by simp [hz])) (fun q hq => by cases hq; exact hl y (by simp)) h1 h2⟩
theorem same_loop (l : List S47) (hl : l.length < 1000000) : ∀ d K i : Nat, i + d = l.length → d < K → wigwagref05_Spans.l0 K l l (i : Int) = some true := by
  intro d
  induction d with
  | zero =>
    intro K i hi hk
    obtain ⟨k, rfl⟩ : ∃ k, K = k + 1 := ⟨K - 1, by omega⟩
    rw [wigwagref05_Spans.l0, if_neg (by omega)]
  | succ d ih =>
    intro K i hi hk
    obtain ⟨k, rfl⟩ : ∃ k, K = k + 1 := ⟨K - 1, by omega⟩
    have hn : wrap64 ((i : Int) + 1) = ((i + 1 : Nat) : Int) := by unfold wrap64; omega
    rw [wigwagref05_Spans.l0, if_pos (by omega), if_pos (by omega), if_pos (by omega), if_neg (by simp), hn]
    exact ih k (i + 1) (by omega) (by omega)
theorem spans_same {l : List S47} {K : Nat} (hl : l.length < 1000000) (hk : l.length < K) : wigwagref05_Spans.f K l l = some true := by
  unfold wigwagref05_Spans.f
  rw [if_pos rfl]
  exact same_loop l hl l.length K 0 (by omega) (by omega)
/-- What an ack of these spans is encoded as, and parsed as. -/
def ends (k : Nat) (x1 : Int) (x6 : List S47) : Option Bool := (frame_Encode.f k 2 0 0 0 0 (IntKind.u64.wrap (x1)) 0 false ([] : List Int) x6).bind fun bt606 => (if (x6.length : Int) = 0 then (if true = true then (some (bt606.2 == 50)) else (none)) else ((frame_Parse.f bt606.1).bind fun bt610 => ((wigwagref05_Spans.f k bt610.2.2.2.2.2.2.2.2.2.1 x6).bind fun t627 => (if true = true then (if bt606.2 = 0 then (if bt610.2.2.2.2.2.2.2.2.2.2.2 = 0 then (if t627 = true then (if bt610.2.2.2.2.2.2.2.2.2.2.1 = (bt606.1.length : Int) then (some (bt610.2.2.2.2.2.1 == (IntKind.u64.wrap (x1)))) else (none)) else (none)) else (none)) else (none)) else (none)))))
theorem ends_ok {k : Nat} {x1 : Int} {x6 : List S47} (hk : 60 ≤ k) (hx : 0 ≤ x1 ∧ x1 ≤ 4294967295) (hok : okS none x6 = true) (h0 : ∀ x ∈ x6, 0 ≤ x.f0) (hl : x6.length ≤ 32) : ends k x1 x6 = some true := by
  have hw : IntKind.u64.wrap x1 = x1 := w64 ⟨hx.1, by omega⟩
  unfold ends
  rw [hw]
  have z : W64 0 := by decide
  have wx : W64 x1 := ⟨hx.1, by omega⟩
  by_cases hl0 : x6.length = 0
  · obtain rfl := List.eq_nil_of_length_eq_zero hl0
    have hne : uChk 2 0 0 0 0 x1 0 false ([] : List Int).length [] ≠ 0 := by
      unfold uChk
      rw [show fOffs 2 = some [5] from rfl]
      simp only
      split
      · decide
      · rw [if_pos (by decide), if_neg (by decide)]; decide
    rw [encode_no z z z z wx z (by decide) (by decide) (by simp; omega) hne, Option.bind_some, if_pos (by simp), if_pos rfl]
    rfl
  · have hc : uChk 2 0 0 0 0 x1 0 false ([] : List Int).length x6 = 0 := by
      unfold uChk
      rw [show fOffs 2 = some [5] from rfl]
      simp only
      have hb : uBad [5] 0 0 0 0 x1 0 = false := by
        unfold uBad badF
        simp
        omega
      rw [hb, if_neg (by decide), if_pos (by decide), if_pos (by unfold spOk; rw [hok]; simp; omega)]
      rfl
    have hnn : ∀ j, 0 ≤ gA 0 0 0 0 x1 0 j := fun j => gA_nn z z z z wx z j
    have ho : fOffs 2 = some [5] := rfl
    have hP := parse_back (r := []) ho hc h0 hnn
    rw [List.append_nil] at hP
    have hB := enc_bytes ho hc h0 hnn (by rfl)
    have hL := enc_len ho hc h0
    rw [encode_ok z z z z wx z (by decide) (by omega) (by omega) hc]
    generalize uEnc 2 0 0 0 0 x1 0 false [] x6 = y at *
    rw [Option.bind_some, if_neg (by omega)]
    simp only
    rw [parse_f hB (by omega), hP, Option.bind_some]
    simp only
    rw [spans_same (by omega) (by omega), Option.bind_some, if_pos rfl, if_pos trivial, if_pos trivial, if_pos trivial, if_pos trivial]
    simp
theorem u16_rd {l : List Int} (h : ∀ x ∈ l, (Lit.int .u16 x).wf = true) (i : Int) : 0 ≤ rd l i ∧ rd l i ≤ 65535 := by
  unfold rd List.getD
  cases hi : l[i.toNat]? with
  | none => simp
  | some x =>
    have := h x (List.mem_of_getElem? hi)
    have e1 : IntKind.u16.min = 0 := rfl
    have e2 : IntKind.u16.max = 65535 := rfl
    simp [Lit.wf, e1, e2] at this
    simp
    omega
theorem spans_loop (l : List Int) (hw : ∀ x ∈ l, (Lit.int .u16 x).wf = true) (hl : l.length < 9000000000000000000) (x1 : Int) (hx : 0 ≤ x1 ∧ x1 ≤ 4294967295) : ∀ (d K : Nat) (acc : List S47) (at_ : Int) (i : Nat), acc.length + d = 32 → d + 61 ≤ K → okS none acc = true → (∀ x ∈ acc, 0 ≤ x.f0 ∧ x.f1 < at_) → 0 ≤ at_ → at_ ≤ acc.length * 200000 → i ≤ l.length → wigwaglaw05_FrameSpans.l0 K l x1 true acc at_ (i : Int) = some true := by
  intro d
  induction d with
  | zero =>
    intro K acc at_ i hd hK hok hb h0 h1 hi
    obtain ⟨k, rfl⟩ : ∃ k, K = k + 1 := ⟨K - 1, by omega⟩
    have he := ends_ok (k := k) (by omega) hx hok (fun x hx => (hb x hx).1) (by omega)
    rw [wigwaglaw05_FrameSpans.l0]
    by_cases hc : wrap64 ((i : Int) + 1) < (l.length : Int)
    · rw [if_pos hc, if_neg (by omega)]
      exact he
    · rw [if_neg hc]
      exact he
  | succ d ih =>
    intro K acc at_ i hd hK hok hb h0 h1 hi
    obtain ⟨k, rfl⟩ : ∃ k, K = k + 1 := ⟨K - 1, by omega⟩
    have he := ends_ok (k := k) (by omega) hx hok (fun x hx => (hb x hx).1) (by omega)
    have hi1 : wrap64 ((i : Int) + 1) = (i : Int) + 1 := by unfold wrap64; omega
    have hi2 : wrap64 ((i : Int) + 2) = ((i + 2 : Nat) : Int) := by unfold wrap64; omega
    rw [wigwaglaw05_FrameSpans.l0, hi1, hi2]
    by_cases hc : (i : Int) + 1 < (l.length : Int)
    · have g1 := u16_rd hw (i : Int)
      have g2 := u16_rd hw ((i : Int) + 1)
      generalize rd l (i : Int) = a at *
      generalize rd l ((i : Int) + 1) = b at *
      have hal : (acc.length : Int) ≤ 31 := by omega
      have e1 : IntKind.u64.wrap a = a := w64 ⟨by omega, by omega⟩
      have e2 : IntKind.u64.wrap b = b := w64 ⟨by omega, by omega⟩
      have e3 : IntKind.u64.wrap (at_ + a) = at_ + a := w64 ⟨by omega, by omega⟩
      have e4 : IntKind.u64.wrap (at_ + a + b) = at_ + a + b := w64 ⟨by omega, by omega⟩
      have e5 : IntKind.u64.wrap (at_ + a + b + 1) = at_ + a + b + 1 := w64 ⟨by omega, by omega⟩
      have e6 : IntKind.u64.wrap (at_ + a + b + 1 + 1) = at_ + a + b + 1 + 1 := w64 ⟨by omega, by omega⟩
      rw [if_pos hc, if_pos (by omega), if_pos (by omega), if_pos (by omega), if_pos (by omega), if_pos (by omega), e1, e2, e3, e4, e5, e6]
      refine ih k _ _ (i + 2) (by simp; omega) (by omega) (okS_snoc hok (fun y hy => ?_) (fun q hq => by cases hq) ?_ ?_) (fun x hx => ?_) (by omega) ?_ (by omega)
      · have := (hb y hy).2
        simp only
        omega
      · simp only; omega
      · simp only; omega
      · rw [List.mem_append, List.mem_singleton] at hx
        rcases hx with hx | rfl
        · have := hb x hx
          omega
        · simp only; omega
      · rw [List.length_append, List.length_singleton]
        omega
    · rw [if_neg hc]
      exact he
theorem FrameSpans : wigwaglaw05_FrameSpans.Pure := by
  intro l0 a1 hm1 hm2 hwf hw1
  have hx : 0 ≤ a1 ∧ a1 ≤ 4294967295 := by
    have e1 : IntKind.u32.min = 0 := rfl
    have e2 : IntKind.u32.max = 4294967295 := rfl
    simp [Lit.wf, e1, e2] at hw1
    omega
  obtain ⟨k, hk⟩ : ∃ k, k = 100 := ⟨_, rfl⟩
  refine ⟨k, ?_⟩
  unfold wigwaglaw05_FrameSpans.f
  rw [awake_ok (by omega), Option.bind_some]
  exact spans_loop l0 hwf (by omega) a1 hx 32 k [] 0 0 rfl (by omega) rfl (fun x hx => by cases hx) (by omega) (by simp) (by omega)
end Go.Proofs.Ytphakdfholkbdaa.Pure
