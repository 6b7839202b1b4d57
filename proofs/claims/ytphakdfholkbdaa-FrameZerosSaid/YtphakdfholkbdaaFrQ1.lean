import Derived.Test.YtphakdfholkbdaaFrQ0
namespace Go.Proofs.Ytphakdfholkbdaa
open Go.Proofs.Ytphakdfholkbdaa.PFra Go.RowKit Go.Proofs.YtphakdfholkbdaaW.PrintWords Go.Proofs.YtphakdfholkbdaaW.PrintLast Go.Proofs.YtphakdfholkbdaaW.PrintMore
set_option maxRecDepth 100000
set_option maxHeartbeats 4000000
set_option linter.unusedVariables false
set_option linter.unusedSimpArgs false
def gA (a1 a2 a3 a4 a5 a6 : Int) : Nat → Int := fun j => selA j a1 a2 a3 a4 a5 a6
theorem gA_each (a1 a2 a3 a4 a5 a6 : Int) : gA a1 a2 a3 a4 a5 a6 1 = a1 ∧ gA a1 a2 a3 a4 a5 a6 2 = a2 ∧ gA a1 a2 a3 a4 a5 a6 3 = a3 ∧ gA a1 a2 a3 a4 a5 a6 4 = a4 ∧ gA a1 a2 a3 a4 a5 a6 5 = a5 ∧ gA a1 a2 a3 a4 a5 a6 6 = a6 := ⟨rfl, rfl, rfl, rfl, rfl, rfl⟩
theorem okS_next : ∀ {l : List S47} {p : Option Int} {i : Nat}, okS p l = true → (h : i + 1 < l.length) → (l[i]'(by omega)).f1 < (l[i + 1]).f0
  | [], _, _, _, h => by simp at h
  | [x], _, i, _, h => by simp at h
  | x :: y :: l, p, 0, h, _ => by
    rw [okS.eq_def] at h
    simp only [Bool.and_eq_true] at h
    have h2 := h.2
    rw [okS.eq_def] at h2
    simp only [Bool.and_eq_true, decide_eq_true_eq] at h2
    exact h2.1.2
  | x :: y :: l, p, i + 1, h, hi => by
    rw [okS.eq_def] at h
    simp only [Bool.and_eq_true] at h
    exact okS_next (l := y :: l) (i := i) h.2 (by simpa using hi)
theorem spNums_eq {l : List S47} (hok : okS none l = true) (h0 : ∀ x ∈ l, 0 ≤ x.f0) : ∀ k, k ≤ l.length → spNums l k = nOver (l.drop (l.length - k)) [] := by
  intro k
  induction k with
  | zero => intro _; rw [Nat.sub_zero, List.drop_length]; rfl
  | succ k ih =>
    intro hk
    have hi : l.length - (k + 1) < l.length := by omega
    have hg : l.getD (l.length - 1 - k) z47 = l[l.length - (k + 1)] := by
      rw [show l.length - 1 - k = l.length - (k + 1) by omega]
      simp [List.getD, List.getElem?_eq_getElem hi]
    rw [spNums_succ, ih (by omega), List.drop_eq_getElem_cons hi, nOver, show l.length - (k + 1) + 1 = l.length - k by omega, List.append_nil]
    have hm := List.getElem_mem hi
    have hb := okS_mem hok _ hm
    have hz := h0 _ hm
    congr 1
    have e2 : lenAt l (l.length - 1 - k) = l[l.length - (k + 1)].f1 - l[l.length - (k + 1)].f0 - 1 := by
      unfold lenAt
      rw [hg, w64 (x := l[l.length - (k + 1)].f1 - l[l.length - (k + 1)].f0) ⟨by omega, by omega⟩, w64 ⟨by omega, by omega⟩]
    have e1 : gapAt l (l.length - 1 - k) = gapN l[l.length - (k + 1)] (l.drop (l.length - k)) := by
      unfold gapAt
      by_cases hlast : k = 0
      · subst hlast
        rw [if_pos (by omega), hg, Nat.sub_zero, List.drop_length, w64 ⟨by omega, by omega⟩]
        rfl
      · have hi2 : l.length - k < l.length := by omega
        have hg2 : l.getD (l.length - 1 - k + 1) z47 = l[l.length - k] := by
          rw [show l.length - 1 - k + 1 = l.length - k by omega]
          simp [List.getD, List.getElem?_eq_getElem hi2]
        have hn : l[l.length - (k + 1)].f1 < l[l.length - k].f0 := by
          have := okS_next (i := l.length - (k + 1)) hok (by omega)
          simpa only [show l.length - (k + 1) + 1 = l.length - k by omega] using this
        have hb2 := okS_mem hok _ (List.getElem_mem hi2)
        rw [if_neg (by omega), hg, hg2, List.drop_eq_getElem_cons hi2, w64 (x := l[l.length - k].f0 - l[l.length - (k + 1)].f1) ⟨by omega, by omega⟩, w64 ⟨by omega, by omega⟩]
        rfl
    rw [e1, e2]
theorem enc_eq {a0 a1 a2 a3 a4 a5 a6 : Int} {a7 : Bool} {l8 : List Int} {l9 : List S47} {os : List Nat} (ho : fOffs a0 = some os) (hc : uChk a0 a1 a2 a3 a4 a5 a6 a7 l8.length l9 = 0) (h0 : ∀ x ∈ l9, 0 ≤ x.f0) :
    uEnc a0 a1 a2 a3 a4 a5 a6 a7 l8 l9 = uNums (numsOf a0 a7 os (gA a1 a2 a3 a4 a5 a6) l9 l8.length) ++ l8 := by
  obtain ⟨_, hsp, hno, _, hfin⟩ := chk_parts ho hc
  have hs : (if l9.length = 0 then [] else uNums [(l9.length : Int)] ++ uNums (spNums l9 l9.length)) = uNums (if l9.length = 0 then [] else (l9.length : Int) :: nOver l9 []) := by
    by_cases hl : l9.length = 0
    · rw [if_pos hl, if_pos hl]; rfl
    · rw [if_neg hl, if_neg hl]
      have hk : a0 = 2 ∨ a0 = 3 := Decidable.byContradiction fun h => hl (by rw [hno h]; rfl)
      have hok := hsp hk
      unfold spOk at hok
      simp only [Bool.and_eq_true] at hok
      rw [spNums_eq hok.2 h0 l9.length (Nat.le_refl _), Nat.sub_self, List.drop_zero, ← uNums_app]
      rfl
  have hd : (if a0 = 14 then uNums [(l8.length : Int)] ++ l8 else []) = uNums (if a0 = 14 then [(l8.length : Int)] else []) ++ l8 := by
    by_cases h : a0 = 14
    · rw [if_pos h, if_pos h]
    · rw [if_neg h, if_neg h]
      rcases hfin with hh | ⟨_, hh⟩
      · exact absurd hh h
      · rw [List.eq_nil_of_length_eq_zero hh]; rfl
  unfold uEnc numsOf
  rw [hs, hd, ho]
  simp only [uNums_app, List.append_assoc, Option.getD_some]
  rfl
theorem selA_gA (o : Nat) (a1 a2 a3 a4 a5 a6 : Int) : selA o a1 a2 a3 a4 a5 a6 = gA a1 a2 a3 a4 a5 a6 o := rfl
theorem nums_bound {a0 a1 a2 a3 a4 a5 a6 : Int} {a7 : Bool} {n : Nat} {l9 : List S47} {os : List Nat} (ho : fOffs a0 = some os) (hc : uChk a0 a1 a2 a3 a4 a5 a6 a7 n l9 = 0) (h0 : ∀ x ∈ l9, 0 ≤ x.f0) (hw : ∀ j, 0 ≤ gA a1 a2 a3 a4 a5 a6 j) : ∀ v ∈ numsOf a0 a7 os (gA a1 a2 a3 a4 a5 a6) l9 n, 0 ≤ v ∧ v < 4611686018427387904 := by
  obtain ⟨hbad, hsp, hno, hn, hfin⟩ := chk_parts ho hc
  obtain ⟨hr0, hr1⟩ := fOffs_range ho
  obtain ⟨hm, _⟩ := fOffs_mem ho
  intro v hv
  unfold numsOf at hv
  simp only [List.mem_append, List.mem_singleton] at hv
  rcases hv with ((rfl | hv) | hv) | hv
  · unfold uKind; split <;> omega
  · by_cases hl : l9.length = 0
    · rw [if_pos hl] at hv; cases hv
    · rw [if_neg hl] at hv
      have hk : a0 = 2 ∨ a0 = 3 := Decidable.byContradiction fun h => hl (by rw [hno h]; rfl)
      have hok := hsp hk
      unfold spOk at hok
      simp only [Bool.and_eq_true, decide_eq_true_eq] at hok
      rcases List.mem_cons.1 hv with rfl | hv
      · omega
      · have key : ∀ (l : List S47) (p : Option Int), okS p l = true → (∀ x ∈ l, 0 ≤ x.f0) → ∀ v ∈ nOver l [], 0 ≤ v ∧ v < 4611686018427387904 := by
          intro l
          induction l with
          | nil => intro p _ _ v hv; cases hv
          | cons x t ih =>
            intro p hp hx v hv
            have hxx := okS_mem hp x (by simp)
            have hx0 := hx x (by simp)
            have ht : okS (some x.f1) t = true := by
              rw [okS.eq_def] at hp
              simp only [Bool.and_eq_true] at hp
              exact hp.2
            rw [nOver, List.append_nil] at hv
            simp only [List.mem_append, List.mem_cons, List.not_mem_nil, or_false] at hv
            rcases hv with hv | rfl | rfl
            · exact ih _ ht (fun y hy => hx y (by simp [hy])) v hv
            · cases t with
              | nil => simp only [gapN]; omega
              | cons y t =>
                have hy := okS_mem ht y (by simp)
                have hlt : x.f1 < y.f0 := by
                  rw [okS.eq_def] at ht
                  simp only [Bool.and_eq_true, decide_eq_true_eq] at ht
                  exact ht.1.2
                simp only [gapN]; omega
            · omega
        exact key l9 none hok.2 h0 v hv
  · obtain ⟨o, ho', rfl⟩ := List.mem_map.1 hv
    obtain ⟨h1, h6⟩ := hm o ho'
    have := (bad_each (g := gA a1 a2 a3 a4 a5 a6) hbad o h1 h6).2 ho'
    exact ⟨hw o, by omega⟩
  · by_cases h : a0 = 14
    · rw [if_pos h, List.mem_singleton] at hv
      subst hv
      omega
    · rw [if_neg h] at hv; cases hv
theorem gA_nn {a1 a2 a3 a4 a5 a6 : Int} (W1 : W64 a1) (W2 : W64 a2) (W3 : W64 a3) (W4 : W64 a4) (W5 : W64 a5) (W6 : W64 a6) (j : Nat) : 0 ≤ gA a1 a2 a3 a4 a5 a6 j := by
  have e : W64 (gA a1 a2 a3 a4 a5 a6 j) := selA_w' j W1 W2 W3 W4 W5 W6
  exact e.1
/-- A frame that may be is parsed as itself, whatever stands behind it. -/
theorem parse_back {a0 a1 a2 a3 a4 a5 a6 : Int} {a7 : Bool} {l8 : List Int} {l9 : List S47} {os : List Nat} (r : List Int) (ho : fOffs a0 = some os) (hc : uChk a0 a1 a2 a3 a4 a5 a6 a7 l8.length l9 = 0) (h0 : ∀ x ∈ l9, 0 ≤ x.f0) (hw : ∀ j, 0 ≤ gA a1 a2 a3 a4 a5 a6 j) :
    uParse (uEnc a0 a1 a2 a3 a4 a5 a6 a7 l8 l9 ++ r) = (a0, a1, a2, a3, a4, a5, a6, a7, l8, l9, ((uEnc a0 a1 a2 a3 a4 a5 a6 a7 l8 l9).length : Int), 0) := by
  obtain ⟨f, hf, hj⟩ := frame_back (g := gA a1 a2 a3 a4 a5 a6) (fin := a7) (d := l8) (s := l9) (r := r) ho hc h0 (uNums_RL (nums_bound ho hc h0 hw))
  unfold uParse
  rw [enc_eq ho hc h0, List.append_assoc, hf]
  simp only [List.length_append]
  rw [hj 1 (by omega) (by omega), hj 2 (by omega) (by omega), hj 3 (by omega) (by omega), hj 4 (by omega) (by omega), hj 5 (by omega) (by omega), hj 6 (by omega) (by omega)]
  simp only [gA_each, Prod.mk.injEq, true_and]
  exact ⟨by omega, trivial⟩
theorem chk_fOffs {a0 a1 a2 a3 a4 a5 a6 : Int} {a7 : Bool} {n : Nat} {l9 : List S47} (hc : uChk a0 a1 a2 a3 a4 a5 a6 a7 n l9 = 0) : ∃ os, fOffs a0 = some os := by
  cases h : fOffs a0 with
  | none => unfold uChk at hc; rw [h] at hc; cases hc
  | some os => exact ⟨os, rfl⟩
theorem bytes_app {a b : List Int} (ha : bytesOk a = true) (hb : bytesOk b = true) : bytesOk (a ++ b) = true := by
  unfold bytesOk at *
  rw [List.all_append, ha, hb]
  rfl
theorem bytes_put {x : Int} (h0 : 0 ≤ x) : bytesOk (uPut x) = true := by
  unfold uPut
  repeat' split
  all_goals simp only [bytesOk, List.all_cons, List.all_nil, Bool.and_true, Bool.and_eq_true, decide_eq_true_eq]
  all_goals omega
theorem bytes_nums {ns : List Int} (h : ∀ v ∈ ns, 0 ≤ v) : bytesOk (uNums ns) = true := by
  induction ns with
  | nil => rfl
  | cons v ns ih =>
    have e : uNums (v :: ns) = uPut v ++ uNums ns := by simp [uNums]
    rw [e]
    exact bytes_app (bytes_put (h v (by simp))) (ih fun w hw => h w (by simp [hw]))
theorem enc_bytes {a0 a1 a2 a3 a4 a5 a6 : Int} {a7 : Bool} {l8 : List Int} {l9 : List S47} {os : List Nat} (ho : fOffs a0 = some os) (hc : uChk a0 a1 a2 a3 a4 a5 a6 a7 l8.length l9 = 0) (h0 : ∀ x ∈ l9, 0 ≤ x.f0) (hw : ∀ j, 0 ≤ gA a1 a2 a3 a4 a5 a6 j) (h8 : bytesOk l8 = true) : bytesOk (uEnc a0 a1 a2 a3 a4 a5 a6 a7 l8 l9) = true := by
  rw [enc_eq ho hc h0]
  exact bytes_app (bytes_nums fun v hv => (nums_bound ho hc h0 hw v hv).1) h8
theorem awake_ok {k : Nat} (hk : 60 ≤ k) : wigwaglaw05_awake.f k = some true := at_rounds wigwaglaw05_awake.mono hk (by decide +kernel)
theorem u8_wf {x : Int} (h : (Lit.int .u8 x).wf = true) : 0 ≤ x ∧ x < 256 := by
  have e1 : IntKind.u8.min = 0 := rfl
  have e2 : IntKind.u8.max = 255 := rfl
  simp [Lit.wf, e1, e2] at h
  omega
theorem bytes_wf {l : List Int} (h : ∀ x ∈ l, (Lit.int .u8 x).wf = true) : bytesOk l = true := List.all_eq_true.2 fun x hx => by
  have := u8_wf (h x hx)
  simpa using this
theorem nums_len : ∀ (ns : List Int), (uNums ns).length ≤ 8 * ns.length := uNums_len
theorem nOver_len : ∀ (t s : List S47), (nOver t s).length = 2 * t.length
  | [], _ => rfl
  | x :: t, s => by simp [nOver, nOver_len t s]; omega
theorem enc_len {a0 a1 a2 a3 a4 a5 a6 : Int} {a7 : Bool} {l8 : List Int} {l9 : List S47} {os : List Nat} (ho : fOffs a0 = some os) (hc : uChk a0 a1 a2 a3 a4 a5 a6 a7 l8.length l9 = 0) (h0 : ∀ x ∈ l9, 0 ≤ x.f0) : (uEnc a0 a1 a2 a3 a4 a5 a6 a7 l8 l9).length ≤ 3000 := by
  obtain ⟨_, hsp, hno, hn, _⟩ := chk_parts ho hc
  obtain ⟨_, hol⟩ := fOffs_mem ho
  rw [enc_eq ho hc h0, List.length_append]
  have := uNums_len (numsOf a0 a7 os (gA a1 a2 a3 a4 a5 a6) l9 l8.length)
  have hl9 : l9.length ≤ 32 := by
    by_cases hk : a0 = 2 ∨ a0 = 3
    · have hok := hsp hk
      unfold spOk at hok
      simp only [Bool.and_eq_true, decide_eq_true_eq] at hok
      exact hok.1.2
    · rw [hno hk]; simp
  have h2 : (numsOf a0 a7 os (gA a1 a2 a3 a4 a5 a6) l9 l8.length).length ≤ 70 := by
    unfold numsOf
    simp only [List.length_append, List.length_map, List.length_singleton]
    have h3 : (if l9.length = 0 then ([] : List Int) else (l9.length : Int) :: nOver l9 []).length ≤ 65 := by
      split
      · simp
      · simp only [List.length_cons, nOver_len]; omega
    have h4 : (if a0 = 14 then [(l8.length : Int)] else []).length ≤ 1 := by split <;> simp
    omega
  omega

end Go.Proofs.Ytphakdfholkbdaa
