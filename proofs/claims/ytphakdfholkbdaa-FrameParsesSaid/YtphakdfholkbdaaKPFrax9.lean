/- PFrax9 -/
import Derived.Test.YtphakdfholkbdaaKA
import Derived.Test.YtphakdfholkbdaaKB
namespace Go.Proofs.Ytphakdfholkbdaa.PFra
open Go.RowKit Go.Proofs.YtphakdfholkbdaaW.PrintWords Go.Proofs.YtphakdfholkbdaaW.PrintLast Go.Proofs.YtphakdfholkbdaaW.PrintMore
set_option linter.unusedVariables false
set_option linter.unusedSimpArgs false
set_option maxRecDepth 100000
set_option maxHeartbeats 4000000
def uPut (x : Int) : List Int := if x < 64 then [x] else if x < 16384 then [x / 256 + 64, x % 256] else if x < 1073741824 then [x / 16777216 + 128, x / 65536 % 256, x / 256 % 256, x % 256]
  else if x < 4611686018427387904 then [x / 72057594037927936 + 192, x / 281474976710656 % 256, x / 1099511627776 % 256, x / 4294967296 % 256, x / 16777216 % 256, x / 65536 % 256, x / 256 % 256, x % 256] else []
theorem uPut_len (x : Int) : (uPut x).length ≤ 8 := by unfold uPut; repeat' split
                                                       all_goals simp
theorem put_eq {x : Int} (h : W64 x) (k : Nat) : ∃ e, varint_Put.f (k + 20) x = some (uPut x, e) := by
  unfold varint_Put.f varint_Size.f uSize uPut
  simp only [Option.bind_some]
  by_cases h1 : x < 64
  · rw [if_pos h1, if_pos h1]
    simp [varint_Put.l0, varint_Put.l1, shr, shl, wrap64, rd, IntKind.bits, IntKind.wrap, IntKind.signed]
    omega
  · rw [if_neg h1, if_neg h1]
    by_cases h2 : x < 16384
    · rw [if_pos h2, if_pos h2]
      simp [varint_Put.l0, varint_Put.l1, shr, shl, wrap64, rd, IntKind.bits, IntKind.wrap, IntKind.signed]
      omega
    · rw [if_neg h2, if_neg h2]
      by_cases h3 : x < 1073741824
      · rw [if_pos h3, if_pos h3]
        simp [varint_Put.l0, varint_Put.l1, shr, shl, wrap64, rd, IntKind.bits, IntKind.wrap, IntKind.signed]
        omega
      · rw [if_neg h3, if_neg h3]
        by_cases h4 : x < 4611686018427387904
        · rw [if_pos h4, if_pos h4]
          simp [varint_Put.l0, varint_Put.l1, shr, shl, wrap64, rd, IntKind.bits, IntKind.wrap, IntKind.signed]
          omega
        · rw [if_neg h4, if_neg h4]
          simp
def uNums (l : List Int) : List Int := l.flatMap uPut
theorem uNums_app (a b : List Int) : uNums (a ++ b) = uNums a ++ uNums b := by simp [uNums]
theorem uNums_len (l : List Int) : (uNums l).length ≤ 8 * l.length := by
  induction l with
  | nil => simp [uNums]
  | cons x l ih =>
    have := uPut_len x
    simp only [uNums, List.flatMap_cons, List.length_append, List.length_cons] at ih ⊢
    omega
theorem put_eq' {x : Int} (h : W64 x) {K : Nat} (hK : 20 ≤ K) : ∃ e, varint_Put.f K x = some (uPut x, e) := by
  obtain ⟨k, rfl⟩ : ∃ k, K = k + 20 := ⟨K - 20, by omega⟩
  exact put_eq h k
theorem num_loop {l : List Int} (hl : ∀ x ∈ l, W64 x) (hn : l.length ≤ 1000) : ∀ (d K i : Nat) (out : List Int), i + d = l.length → d + 20 < K → out.length + 8 * d ≤ 100000 → frame_numbers.l0 K out l (l.length : Int) (i : Int) = some (out ++ uNums (l.drop i)) := by
  intro d
  induction d with
  | zero =>
    intro K i out hi hk ho
    obtain ⟨k, rfl⟩ : ∃ m, K = m + 1 := ⟨K - 1, by omega⟩
    simp only [frame_numbers.l0]
    rw [if_neg (by omega), List.drop_of_length_le (by omega)]
    simp [uNums]
  | succ d ih =>
    intro K i out hi hk ho
    obtain ⟨k, rfl⟩ : ∃ m, K = m + 1 := ⟨K - 1, by omega⟩
    have hlt : i < l.length := by omega
    simp only [frame_numbers.l0]
    rw [if_pos (by omega), if_pos (by omega), if_pos (by omega)]
    have hrd : rd l (i : Int) = l[i] := by simp [rd, List.getD, List.getElem?_eq_getElem hlt]
    obtain ⟨e, he⟩ := put_eq' (hl l[i] (List.getElem_mem hlt)) (K := k) (by omega)
    rw [hrd, he]
    simp only [Option.bind_some]
    have hu := uPut_len l[i]
    have hw : wrap64 ((i : Int) + 1) = ((i + 1 : Nat) : Int) := by unfold wrap64; omega
    rw [if_pos (by omega), hw, ih k (i + 1) _ (by omega) (by omega) (by simp only [List.length_append]; omega)]
    rw [List.drop_eq_getElem_cons hlt]
    simp only [uNums, List.flatMap_cons, List.append_assoc]
theorem num_eq {l : List Int} (hl : ∀ x ∈ l, W64 x) (hn : l.length ≤ 1000) : frame_numbers.f 1021 l = some (uNums l) := by
  unfold frame_numbers.f
  have := num_loop hl hn l.length 1021 0 [] (by omega) (by omega) (by simp; omega)
  simpa using this
theorem numsC {l : List Int} (hl : ∀ x ∈ l, W64 x) (hn : l.length ≤ 1000) (A : Option Addr) (c : Nat) (W : World) (hC : Kd.C (Kd.int .u64) W A l.length l) (hc : l.length ≤ c) :
    Calls Try.prog 24 #[.slice A l.length c] W fun e w' => ∃ v2, e = .returned v2 ∧ Kd.R (Kd.int .u8) 5 w' W.heap.size (fun _ => True) v2 (uNums l) ∧ Below W.heap.size W w' :=
  frame_numbers.calls 1021 A c l (uNums l) W hC hc (num_eq hl hn)
theorem zA_ {α : Type} {l : List α} {i : Nat} {a : α} : l.toArray.setIfInBounds i a = (l.set i a).toArray := List.setIfInBounds_toArray ..
theorem z0_ {α : Type} {x a : α} {l : List α} : (x :: l).set 0 a = a :: l := List.set_cons_zero ..
theorem z1_ {α : Type} {n : Nat} {x a : α} {l : List α} : (x :: l).set (n + 1) a = x :: l.set n a := List.set_cons_succ ..
theorem selA_w' {a1 a2 a3 a4 a5 a6 : Int} (j : Nat) (W1 : W64 a1) (W2 : W64 a2) (W3 : W64 a3) (W4 : W64 a4) (W5 : W64 a5) (W6 : W64 a6) : W64 (selA j a1 a2 a3 a4 a5 a6) := by
  unfold selA
  repeat (first | assumption | split)
def uKind (a0 : Int) (a7 : Bool) : Int := if a7 = true then a0 + 1 else a0
def selL (os : List Nat) (a1 a2 a3 a4 a5 a6 : Int) : List Int := os.map fun o => selA o a1 a2 a3 a4 a5 a6
theorem frame_Encode.wayA00 (k : Nat) (a0 a1 a2 a3 a4 a5 a6 : Int) (A8 : Option Addr) (c8 : Nat) (l8 : List Int) (A9 : Option Addr) (c9 : Nat) (l9 : List S47) (w : World) (hc : frame_Check.f k a0 a1 a2 a3 a4 a5 a6 false l8 l9 = some 0) (os : List Nat) (ho : fOffs a0 = some os) (W1 : W64 a1) (W2 : W64 a2) (W3 : W64 a3) (W4 : W64 a4) (W5 : W64 a5) (W6 : W64 a6) (h8 : l8.length ≤ 1200) (hk0 : 0 ≤ a0) (hk1 : a0 ≤ 30) (hr8 : Kd.C (Kd.int .u8) w A8 l8.length l8) (hc8 : l8.length ≤ c8) (hr9 : Kd.C k47 w A9 l9.length l9) (hc9 : l9.length ≤ c9) (hn9 : l9.length = 0) (h14 : (a0 == 14) = false) :
    Calls Try.prog 13 #[.agg #[.int .i64 a0, .int .u64 a1, .int .u64 a2, .int .u64 a3, .int .u64 a4, .int .u64 a5, .int .u64 a6, .bool false, .slice A8 l8.length c8, .slice A9 l9.length c9]] w fun e w' => ∃ v, e = .returned (.tuple #[v, .int .i64 0]) ∧ OW w w' v (uNums [a0] ++ uNums (selL os a1 a2 a3 a4 a5 a6)) ∧ Below w.heap.size w w' := by
  have hu27 := Try.underlying27
  have HS := Since.refl w
  obtain ⟨hm, hl3⟩ := fOffs_mem ho
  have HR8 := Aside0.mk hr8; have HR9 := Aside0.mk hr9; have HC := Aside0.mk hc; have HF := Aside0.mk ho
  clear hr8 hr9 hc ho
  have hd9 : decide (0 < l9.length) = false := by simp [hn9]
  have hwk : W64 a0 := ⟨hk0, by omega⟩
  have hwk1 : W64 (a0 + 1) := ⟨by omega, by omega⟩
  clear hn9
  go_enter Try.func13, Try.ntmps13
  go_wp2_with (first | (refine seg_new rfl (N := 1) rfl [.int .i64 a0, .int .u64 a1, .int .u64 a2, .int .u64 a3, .int .u64 a4, .int .u64 a5, .int .u64 a6, .bool false, .slice A8 l8.length c8, .slice A9 l9.length c9] 27 ?hr ?_; (case hr => rfl); intro g0 hg w1 hn hl; have GEg0 := ge_new HS hg; clear hg; replace HS := HS.below hl; have Bg0 := hn; clear hl hn; have kg0_0 := Bg0.at 0 rfl; have kg0_7 := Bg0.at 7 rfl; have kg0_8 := Bg0.at 8 rfl; have kg0_9 := Bg0.at 9 rfl) | (refine seg_load rfl (N := 15) rfl 27 (.tmp 1) rfl g0 0 [.int .i64 a0, .int .u64 a1, .int .u64 a2, .int .u64 a3, .int .u64 a4, .int .u64 a5, .int .u64 a6, .bool false, .slice A8 l8.length c8, .slice A9 l9.length c9] rfl Bg0 rfl Try.underlying27 rfl (by kernel_rfl) ?_) | ((go_at_call 15); (with_reducible refine (frame_Check.calls k a0 a1 a2 a3 a4 a5 a6 false A8 c8 l8 A9 c9 l9 0 _ (Kd.C_below HR8.out HS.out) hc8 (Kd.C_below HR9.out HS.out) hc9 HC.out).mono ?_); rintro e w2 ⟨rfl, hl⟩; replace Bg0 := Bg0.below hl; replace HS := HS.below hl; clear hl; replace kg0_0 := Bg0.at 0 rfl; replace kg0_7 := Bg0.at 7 rfl; replace kg0_8 := Bg0.at 8 rfl; replace kg0_9 := Bg0.at 9 rfl) | (refine Kd.R_lit (Kd.int .u64) (w0 := w2) w2.heap.size 23 ?hg (N := 28) ?hd (xs := [a0]) (inner := [.int .u64 a0]) (ok := fun _ => True) (okp := fun _ => True) ?hr ?hp (fun _ hk => hk) trivial (Below.refl _ _) (Nat.le_refl _) (by simp) ?_; (case hd => rfl); (case hg => rfl); (case hr => first | (go_simp; done) | (go_simp; rfl)); (case hp => exact Kd.reps_scalar [a0]); intro vb w3 hRb hl hg_ hnew_; obtain ⟨Ab, cb, rfl⟩ := Kd.R_slice hRb; obtain ⟨_, hcb, hCb⟩ := Kd.R_reads' hRb; clear hg_ hnew_ hRb; replace Bg0 := Bg0.below hl; replace HS := HS.below hl; clear hl; replace kg0_0 := Bg0.at 0 rfl; replace kg0_7 := Bg0.at 7 rfl; replace kg0_8 := Bg0.at 8 rfl; replace kg0_9 := Bg0.at 9 rfl) | (go_at_call 24; refine (numsC (l := [a0]) (by simpa using hwk) (by simp) Ab cb _ hCb hcb).mono ?_; rintro e w4 ⟨v2, rfl, hR2, hl⟩; obtain ⟨A2, cc2, rfl⟩ := Kd.R_slice hR2; have HO : OW w w4 (.slice A2 (uNums [a0]).length cc2) (uNums [a0]) := ⟨Kd.R_lower hR2 HS.le⟩; clear hR2 hCb hcb; replace Bg0 := Bg0.below hl; replace HS := HS.below hl; clear hl; replace kg0_0 := Bg0.at 0 rfl; replace kg0_7 := Bg0.at 7 rfl; replace kg0_8 := Bg0.at 8 rfl; replace kg0_9 := Bg0.at 9 rfl) | (refine seg_new rfl (N := 6) rfl [.slice none 0 0] 24 ?hr ?_; (case hr => rfl); intro g1 hg w5 hn hl; have Ng1_g0 := ne_new Bg0 hg; have GEg1 := ge_new HS hg; clear hg; replace Bg0 := Bg0.below hl; replace HO := HO.below hl; replace HS := HS.below hl; have Bg1 := hn; clear hl hn; replace kg0_0 := Bg0.at 0 rfl; replace kg0_7 := Bg0.at 7 rfl; replace kg0_8 := Bg0.at 8 rfl; replace kg0_9 := Bg0.at 9 rfl) | (refine seg_store rfl rfl 24 (.tmp 6) (.tmp 29) rfl g1 0 [.slice A2 (uNums [a0]).length cc2] [.slice A2 (uNums [a0]).length cc2] (.slice A2 (uNums [a0]).length cc2) rfl rfl rfl Bg1 (by kernel_rfl) (nle rfl) rfl rfl ?_; intro w6 hn hw; replace HO := HO.grown Bg1 (by decide) hw; replace Bg0 := Bg0.grown hw Ng1_g0.symm; replace HS := HS.grown hw GEg1; replace Bg1 := hn; clear hw; replace kg0_0 := Bg0.at 0 rfl; replace kg0_7 := Bg0.at 7 rfl; replace kg0_8 := Bg0.at 8 rfl; replace kg0_9 := Bg0.at 9 rfl; clear hn) | ((go_at_call 26); (with_reducible refine (fieldsC a0 g0 os _ (Bg0.at 0 rfl) HF.out).mono ?_); rintro e w7 ⟨A1, rfl, hP1, hl⟩; replace HO := HO.below hl; replace Bg0 := Bg0.below hl; replace Bg1 := Bg1.below hl; replace HS := HS.below hl; clear hl; clear kg0_7 kg0_8 kg0_9; replace kg0_0 := Bg0.at 0 rfl))
  have HL := Aside0.mk (show (uNums [a0]).length ≤ 8 by (have := uNums_len [a0]; simpa using this))
  go_loopw [84] (fun i wr => ∃ (q : Nat) (v : Value), i = .int .i64 q ∧ q ≤ os.length ∧ OW w wr v (uNums [a0] ++ uNums ((selL os a1 a2 a3 a4 a5 a6).take q)) ∧ Blk wr g0 27 [.int .i64 a0, .int .u64 a1, .int .u64 a2, .int .u64 a3, .int .u64 a4, .int .u64 a5, .int .u64 a6, .bool false, .slice A8 l8.length c8, .slice A9 l9.length c9] ∧ Blk wr g1 24 [v] ∧ PR wr A1 g0 os ∧ Since w wr) (fun i _ => os.length - (intOf i).toNat)
  case atStart => exact ⟨0, _, rfl, Nat.zero_le _, by rw [List.take_zero]; simpa [uNums] using HO, Bg0, Bg1, hP1, HS⟩
  case round =>
    clear kg0_0 hP1 Bg0 Bg1 HO HS
    obtain ⟨q, v, rfl, hq, HO, Bg0, Bg1, hP1, HS⟩ := hrel
    have hsl : (selL os a1 a2 a3 a4 a5 a6).length = os.length := by simp [selL]
    by_cases hlt : q < os.length
    · obtain ⟨o, hoq⟩ : ∃ o, os[q]? = some o := ⟨_, List.getElem?_eq_getElem hlt⟩
      have hom := List.mem_of_getElem? hoq
      have hmo := hm o hom
      have hne : os ≠ [] := by intro e; simp [e] at hlt
      obtain ⟨b1, hA1, Bb1⟩ := hP1 hne
      have Nb1_g1 : b1 ≠ g1 := blk_ne_of Bb1 Bg1 (by decide)
      have Nb1_g0 : b1 ≠ g0 := blk_ne_of Bb1 Bg0 (by decide)
      have k1 : wr.cell? ⟨b1, q, none⟩ = some (.pointer (some ⟨g0, o, none⟩)) := (Bb1.cell q).trans (by simp [hoq])
      have hco : ([.int .i64 a0, .int .u64 a1, .int .u64 a2, .int .u64 a3, .int .u64 a4, .int .u64 a5, .int .u64 a6, .bool false, .slice A8 l8.length c8, .slice A9 l9.length c9] : List Value)[o]? = some (.int .u64 (selA o a1 a2 a3 a4 a5 a6)) := by rw [← cellsZ_nil, cellsZ_at [] o hmo.1 hmo.2]; simp [zf]
      have htk : (selL os a1 a2 a3 a4 a5 a6).take (q + 1) = (selL os a1 a2 a3 a4 a5 a6).take q ++ [(selA o a1 a2 a3 a4 a5 a6)] := by rw [List.take_add_one]; simp [selL, hoq]
      have hws : W64 (selA o a1 a2 a3 a4 a5 a6) := selA_w' o W1 W2 W3 W4 W5 W6
      have hlen : (uNums [a0] ++ uNums ((selL os a1 a2 a3 a4 a5 a6).take q)).length ≤ 100000 := by
        have e1 := uNums_len ((selL os a1 a2 a3 a4 a5 a6).take q)
        have e2 := List.length_take_le q (selL os a1 a2 a3 a4 a5 a6)
        have e3 := HL.out
        simp only [List.length_append] at *
        omega
      generalize (selA o a1 a2 a3 a4 a5 a6) = v1 at hco htk hws
      have T1 := Aside0.mk htk; have T2 := Aside0.mk hco; have TA := Aside0.mk hsl
      clear htk hoq hom hmo hne hsl
      go_wp2
      refine start_ (n := 8) (S := fun w' => w'.cell? ⟨g1, 0, none⟩ = some (v) ∧ w'.cell? ⟨g0, o, none⟩ = some (.int .u64 v1)) (ds := [7]) (bs 8 0) (by kernel_rfl) rfl rfl ⟨((Bg1.drew).at 0 rfl), (((Bg0.drew).cell o).trans T2.out)⟩ (fun hHeld => ?_)
      generalize hWd : World.drew wr = w8 at hHeld ⊢
      have hl : Below wr.heap.size wr w8 := (by rw [← hWd]; exact below_drew1 (Below.refl _ _))
      clear hWd
      replace HO := HO.below hl; replace Bg0 := Bg0.below hl; replace Bg1 := Bg1.below hl; replace Bb1 := Bb1.below hl; replace HS := HS.below hl; clear hl
      refine take_ (i := 0) (N := some 88) (v := ?_) (a' := ?_) (bs 8 1) rfl rfl (by kernel_rfl) (fun _ _ _ h => h) (Or.inl ⟨by rfl, ?_⟩) hHeld ?_ ?_
      rotate_left
      · rintro w' ⟨s0, s1⟩
        go_simp
        with_reducible rfl
      rotate_left
      · simp only [Act.put, zA_, z0_, z1_, i64_w, i32_w]
        rfl
      refine pure_ (i := 1) (N := some 89) (v := ?_) (a' := ?_) (bs 8 3) rfl rfl (by kernel_rfl) (fun _ _ _ h => h) (Or.inl ⟨by rfl, ?_⟩) ?_ ?_
      rotate_left
      · intro w'
        go_simp
        with_reducible rfl
      rotate_left
      · simp only [Act.put, zA_, z0_, z1_, i64_w, i32_w]
        rfl
      refine pure_ (i := 2) (N := some 90) (v := ?_) (a' := ?_) (bs 8 7) rfl rfl (by kernel_rfl) (fun _ _ _ h => h) (Or.inl ⟨by rfl, ?_⟩) ?_ ?_
      rotate_left
      · intro w'
        go_simp
        with_reducible rfl
      rotate_left
      · simp only [Act.put, zA_, z0_, z1_, i64_w, i32_w]
        rfl
      refine take_ (i := 3) (N := some 91) (v := ?_) (a' := ?_) (bs 8 15) rfl rfl (by kernel_rfl) (fun _ _ _ h => h) (Or.inl ⟨by rfl, ?_⟩) hHeld ?_ ?_
      rotate_left
      · rintro w' ⟨s0, s1⟩
        go_simp
        with_reducible rfl
      rotate_left
      · simp only [Act.put, zA_, z0_, z1_, i64_w, i32_w]
        rfl
      refine chain3_ (i1 := 4) (i2 := 5) (i3 := 6) (N1 := 92) (N2 := 93) (N3 := 94) (bs 8 31) (bs 8 63) (bs 8 127) rfl rfl rfl rfl rfl rfl rfl rfl rfl (by kernel_rfl) (by kernel_rfl) (by kernel_rfl) (by decide) (by decide) (by decide) [v1] (uNums [v1]) (uNums [a0] ++ uNums ((selL os a1 a2 a3 a4 a5 a6).take q)) (v) (.tmp 88) 24 Try.func24 (by kernel_rfl) rfl ?r1 rfl rfl (fun _ => rfl) (fun _ _ => rfl) (fun _ _ => rfl) (by simp) ?hlen (numsC (l := [v1]) (by simpa using hws) (by simp)) HO HS (fun w' hk => ⟨((hk.blk Bg1 (by decide) (by simp)).at 0 rfl), (((hk.blk Bg0 (by decide) (by simp)).cell o).trans T2.out)⟩) ?_
      case r1 => first | (go_simp; done) | (go_simp; rfl)
      case hlen => (have := uNums_len [v1]; simp only [List.length_cons, List.length_nil] at this; omega)
      intro x92 x93 v94 w9 HO_ hk HS_ hHeld
      replace Bg0 := hk.blk Bg0 (by decide) (by simp)
      replace Bg1 := hk.blk Bg1 (by decide) (by simp)
      replace Bb1 := hk.blk Bb1 (by decide) (by simp)
      clear HO hk HS; have HO := HO_; have HS := HS_; clear HO_ HS_
      refine norm_ (a' := ?_) ?_ ?_
      rotate_left
      · simp only [Act.put, zA_, z0_, z1_, i64_w, i32_w]
        rfl
      refine store_ (i4 := 7) (bs 8 255) rfl rfl rfl (by kernel_rfl) (by decide) (.tmp 6) (.tmp 94) g1 (v) (v94) ((uNums [a0] ++ uNums ((selL os a1 a2 a3 a4 a5 a6).take q)) ++ uNums [v1]) rfl rfl rfl HO HS Bg1 GEg1 ?_
      intro w10 HO_ hB_ hk HS_
      clear Bg1
      replace Bg0 := hk.blk Bg0 (by decide) (by simpa using Ng1_g0.symm)
      replace Bb1 := hk.blk Bb1 (by decide) (by simpa using Nb1_g1)
      clear HO hk HS; have HO := HO_; have HS := HS_; clear HO_ HS_
      have Bg1 := hB_; clear hB_
      refine done_ (by kernel_rfl) ?_
      go_wp2
      go_roundw
      case rel => exact ⟨q + 1, _, by go_num, by omega, by rw [T1.out, uNums_app, ← List.append_assoc]; exact HO, Bg0, Bg1, fun _ => ⟨b1, hA1, Bb1⟩, HS⟩
      case measure => simp [intOf]; omega
    · obtain rfl : q = os.length := by omega
      rw [← hsl, List.take_length] at HO
      clear hsl hP1 hm
      have kg0_0 := Bg0.at 0 rfl
      have kg1_0 := Bg1.at 0 rfl
      go_wp2
      go_ret2
      exact ⟨_, rfl, HO, HS.out⟩
theorem frame_Encode.wayA01 (k : Nat) (a0 a1 a2 a3 a4 a5 a6 : Int) (A8 : Option Addr) (c8 : Nat) (l8 : List Int) (A9 : Option Addr) (c9 : Nat) (l9 : List S47) (w : World) (hc : frame_Check.f k a0 a1 a2 a3 a4 a5 a6 false l8 l9 = some 0) (os : List Nat) (ho : fOffs a0 = some os) (W1 : W64 a1) (W2 : W64 a2) (W3 : W64 a3) (W4 : W64 a4) (W5 : W64 a5) (W6 : W64 a6) (h8 : l8.length ≤ 1200) (hk0 : 0 ≤ a0) (hk1 : a0 ≤ 30) (hr8 : Kd.C (Kd.int .u8) w A8 l8.length l8) (hc8 : l8.length ≤ c8) (hr9 : Kd.C k47 w A9 l9.length l9) (hc9 : l9.length ≤ c9) (hn9 : l9.length = 0) (h14 : (a0 == 14) = true) :
    Calls Try.prog 13 #[.agg #[.int .i64 a0, .int .u64 a1, .int .u64 a2, .int .u64 a3, .int .u64 a4, .int .u64 a5, .int .u64 a6, .bool false, .slice A8 l8.length c8, .slice A9 l9.length c9]] w fun e w' => ∃ v, e = .returned (.tuple #[v, .int .i64 0]) ∧ OW w w' v (uNums [a0] ++ uNums (selL os a1 a2 a3 a4 a5 a6) ++ uNums [(l8.length : Int)] ++ l8) ∧ Below w.heap.size w w' := by
  have hu27 := Try.underlying27
  have HS := Since.refl w
  obtain ⟨hm, hl3⟩ := fOffs_mem ho
  have HR8 := Aside0.mk hr8; have HR9 := Aside0.mk hr9; have HC := Aside0.mk hc; have HF := Aside0.mk ho
  clear hr8 hr9 hc ho
  have hd9 : decide (0 < l9.length) = false := by simp [hn9]
  have hwk : W64 a0 := ⟨hk0, by omega⟩
  have hwk1 : W64 (a0 + 1) := ⟨by omega, by omega⟩
  clear hn9
  go_enter Try.func13, Try.ntmps13
  go_wp2_with (first | (refine seg_new rfl (N := 1) rfl [.int .i64 a0, .int .u64 a1, .int .u64 a2, .int .u64 a3, .int .u64 a4, .int .u64 a5, .int .u64 a6, .bool false, .slice A8 l8.length c8, .slice A9 l9.length c9] 27 ?hr ?_; (case hr => rfl); intro g0 hg w1 hn hl; have GEg0 := ge_new HS hg; clear hg; replace HS := HS.below hl; have Bg0 := hn; clear hl hn; have kg0_0 := Bg0.at 0 rfl; have kg0_7 := Bg0.at 7 rfl; have kg0_8 := Bg0.at 8 rfl; have kg0_9 := Bg0.at 9 rfl) | (refine seg_load rfl (N := 15) rfl 27 (.tmp 1) rfl g0 0 [.int .i64 a0, .int .u64 a1, .int .u64 a2, .int .u64 a3, .int .u64 a4, .int .u64 a5, .int .u64 a6, .bool false, .slice A8 l8.length c8, .slice A9 l9.length c9] rfl Bg0 rfl Try.underlying27 rfl (by kernel_rfl) ?_) | ((go_at_call 15); (with_reducible refine (frame_Check.calls k a0 a1 a2 a3 a4 a5 a6 false A8 c8 l8 A9 c9 l9 0 _ (Kd.C_below HR8.out HS.out) hc8 (Kd.C_below HR9.out HS.out) hc9 HC.out).mono ?_); rintro e w2 ⟨rfl, hl⟩; replace Bg0 := Bg0.below hl; replace HS := HS.below hl; clear hl; replace kg0_0 := Bg0.at 0 rfl; replace kg0_7 := Bg0.at 7 rfl; replace kg0_8 := Bg0.at 8 rfl; replace kg0_9 := Bg0.at 9 rfl) | (refine Kd.R_lit (Kd.int .u64) (w0 := w2) w2.heap.size 23 ?hg (N := 28) ?hd (xs := [a0]) (inner := [.int .u64 a0]) (ok := fun _ => True) (okp := fun _ => True) ?hr ?hp (fun _ hk => hk) trivial (Below.refl _ _) (Nat.le_refl _) (by simp) ?_; (case hd => rfl); (case hg => rfl); (case hr => first | (go_simp; done) | (go_simp; rfl)); (case hp => exact Kd.reps_scalar [a0]); intro vb w3 hRb hl hg_ hnew_; obtain ⟨Ab, cb, rfl⟩ := Kd.R_slice hRb; obtain ⟨_, hcb, hCb⟩ := Kd.R_reads' hRb; clear hg_ hnew_ hRb; replace Bg0 := Bg0.below hl; replace HS := HS.below hl; clear hl; replace kg0_0 := Bg0.at 0 rfl; replace kg0_7 := Bg0.at 7 rfl; replace kg0_8 := Bg0.at 8 rfl; replace kg0_9 := Bg0.at 9 rfl) | (go_at_call 24; refine (numsC (l := [a0]) (by simpa using hwk) (by simp) Ab cb _ hCb hcb).mono ?_; rintro e w4 ⟨v2, rfl, hR2, hl⟩; obtain ⟨A2, cc2, rfl⟩ := Kd.R_slice hR2; have HO : OW w w4 (.slice A2 (uNums [a0]).length cc2) (uNums [a0]) := ⟨Kd.R_lower hR2 HS.le⟩; clear hR2 hCb hcb; replace Bg0 := Bg0.below hl; replace HS := HS.below hl; clear hl; replace kg0_0 := Bg0.at 0 rfl; replace kg0_7 := Bg0.at 7 rfl; replace kg0_8 := Bg0.at 8 rfl; replace kg0_9 := Bg0.at 9 rfl) | (refine seg_new rfl (N := 6) rfl [.slice none 0 0] 24 ?hr ?_; (case hr => rfl); intro g1 hg w5 hn hl; have Ng1_g0 := ne_new Bg0 hg; have GEg1 := ge_new HS hg; clear hg; replace Bg0 := Bg0.below hl; replace HO := HO.below hl; replace HS := HS.below hl; have Bg1 := hn; clear hl hn; replace kg0_0 := Bg0.at 0 rfl; replace kg0_7 := Bg0.at 7 rfl; replace kg0_8 := Bg0.at 8 rfl; replace kg0_9 := Bg0.at 9 rfl) | (refine seg_store rfl rfl 24 (.tmp 6) (.tmp 29) rfl g1 0 [.slice A2 (uNums [a0]).length cc2] [.slice A2 (uNums [a0]).length cc2] (.slice A2 (uNums [a0]).length cc2) rfl rfl rfl Bg1 (by kernel_rfl) (nle rfl) rfl rfl ?_; intro w6 hn hw; replace HO := HO.grown Bg1 (by decide) hw; replace Bg0 := Bg0.grown hw Ng1_g0.symm; replace HS := HS.grown hw GEg1; replace Bg1 := hn; clear hw; replace kg0_0 := Bg0.at 0 rfl; replace kg0_7 := Bg0.at 7 rfl; replace kg0_8 := Bg0.at 8 rfl; replace kg0_9 := Bg0.at 9 rfl; clear hn) | ((go_at_call 26); (with_reducible refine (fieldsC a0 g0 os _ (Bg0.at 0 rfl) HF.out).mono ?_); rintro e w7 ⟨A1, rfl, hP1, hl⟩; replace HO := HO.below hl; replace Bg0 := Bg0.below hl; replace Bg1 := Bg1.below hl; replace HS := HS.below hl; clear hl; clear kg0_7 kg0_8 kg0_9; replace kg0_0 := Bg0.at 0 rfl))
  have HL := Aside0.mk (show (uNums [a0]).length ≤ 8 by (have := uNums_len [a0]; simpa using this))
  go_loopw [84] (fun i wr => ∃ (q : Nat) (v : Value), i = .int .i64 q ∧ q ≤ os.length ∧ OW w wr v (uNums [a0] ++ uNums ((selL os a1 a2 a3 a4 a5 a6).take q)) ∧ Blk wr g0 27 [.int .i64 a0, .int .u64 a1, .int .u64 a2, .int .u64 a3, .int .u64 a4, .int .u64 a5, .int .u64 a6, .bool false, .slice A8 l8.length c8, .slice A9 l9.length c9] ∧ Blk wr g1 24 [v] ∧ PR wr A1 g0 os ∧ Since w wr) (fun i _ => os.length - (intOf i).toNat)
  case atStart => exact ⟨0, _, rfl, Nat.zero_le _, by rw [List.take_zero]; simpa [uNums] using HO, Bg0, Bg1, hP1, HS⟩
  case round =>
    clear kg0_0 hP1 Bg0 Bg1 HO HS
    obtain ⟨q, v, rfl, hq, HO, Bg0, Bg1, hP1, HS⟩ := hrel
    have hsl : (selL os a1 a2 a3 a4 a5 a6).length = os.length := by simp [selL]
    by_cases hlt : q < os.length
    · obtain ⟨o, hoq⟩ : ∃ o, os[q]? = some o := ⟨_, List.getElem?_eq_getElem hlt⟩
      have hom := List.mem_of_getElem? hoq
      have hmo := hm o hom
      have hne : os ≠ [] := by intro e; simp [e] at hlt
      obtain ⟨b1, hA1, Bb1⟩ := hP1 hne
      have Nb1_g1 : b1 ≠ g1 := blk_ne_of Bb1 Bg1 (by decide)
      have Nb1_g0 : b1 ≠ g0 := blk_ne_of Bb1 Bg0 (by decide)
      have k1 : wr.cell? ⟨b1, q, none⟩ = some (.pointer (some ⟨g0, o, none⟩)) := (Bb1.cell q).trans (by simp [hoq])
      have hco : ([.int .i64 a0, .int .u64 a1, .int .u64 a2, .int .u64 a3, .int .u64 a4, .int .u64 a5, .int .u64 a6, .bool false, .slice A8 l8.length c8, .slice A9 l9.length c9] : List Value)[o]? = some (.int .u64 (selA o a1 a2 a3 a4 a5 a6)) := by rw [← cellsZ_nil, cellsZ_at [] o hmo.1 hmo.2]; simp [zf]
      have htk : (selL os a1 a2 a3 a4 a5 a6).take (q + 1) = (selL os a1 a2 a3 a4 a5 a6).take q ++ [(selA o a1 a2 a3 a4 a5 a6)] := by rw [List.take_add_one]; simp [selL, hoq]
      have hws : W64 (selA o a1 a2 a3 a4 a5 a6) := selA_w' o W1 W2 W3 W4 W5 W6
      have hlen : (uNums [a0] ++ uNums ((selL os a1 a2 a3 a4 a5 a6).take q)).length ≤ 100000 := by
        have e1 := uNums_len ((selL os a1 a2 a3 a4 a5 a6).take q)
        have e2 := List.length_take_le q (selL os a1 a2 a3 a4 a5 a6)
        have e3 := HL.out
        simp only [List.length_append] at *
        omega
      generalize (selA o a1 a2 a3 a4 a5 a6) = v1 at hco htk hws
      have T1 := Aside0.mk htk; have T2 := Aside0.mk hco; have TA := Aside0.mk hsl
      clear htk hoq hom hmo hne hsl
      go_wp2
      refine start_ (n := 8) (S := fun w' => w'.cell? ⟨g1, 0, none⟩ = some (v) ∧ w'.cell? ⟨g0, o, none⟩ = some (.int .u64 v1)) (ds := [7]) (bs 8 0) (by kernel_rfl) rfl rfl ⟨((Bg1.drew).at 0 rfl), (((Bg0.drew).cell o).trans T2.out)⟩ (fun hHeld => ?_)
      generalize hWd : World.drew wr = w8 at hHeld ⊢
      have hl : Below wr.heap.size wr w8 := (by rw [← hWd]; exact below_drew1 (Below.refl _ _))
      clear hWd
      replace HO := HO.below hl; replace Bg0 := Bg0.below hl; replace Bg1 := Bg1.below hl; replace Bb1 := Bb1.below hl; replace HS := HS.below hl; clear hl
      refine take_ (i := 0) (N := some 88) (v := ?_) (a' := ?_) (bs 8 1) rfl rfl (by kernel_rfl) (fun _ _ _ h => h) (Or.inl ⟨by rfl, ?_⟩) hHeld ?_ ?_
      rotate_left
      · rintro w' ⟨s0, s1⟩
        go_simp
        with_reducible rfl
      rotate_left
      · simp only [Act.put, zA_, z0_, z1_, i64_w, i32_w]
        rfl
      refine pure_ (i := 1) (N := some 89) (v := ?_) (a' := ?_) (bs 8 3) rfl rfl (by kernel_rfl) (fun _ _ _ h => h) (Or.inl ⟨by rfl, ?_⟩) ?_ ?_
      rotate_left
      · intro w'
        go_simp
        with_reducible rfl
      rotate_left
      · simp only [Act.put, zA_, z0_, z1_, i64_w, i32_w]
        rfl
      refine pure_ (i := 2) (N := some 90) (v := ?_) (a' := ?_) (bs 8 7) rfl rfl (by kernel_rfl) (fun _ _ _ h => h) (Or.inl ⟨by rfl, ?_⟩) ?_ ?_
      rotate_left
      · intro w'
        go_simp
        with_reducible rfl
      rotate_left
      · simp only [Act.put, zA_, z0_, z1_, i64_w, i32_w]
        rfl
      refine take_ (i := 3) (N := some 91) (v := ?_) (a' := ?_) (bs 8 15) rfl rfl (by kernel_rfl) (fun _ _ _ h => h) (Or.inl ⟨by rfl, ?_⟩) hHeld ?_ ?_
      rotate_left
      · rintro w' ⟨s0, s1⟩
        go_simp
        with_reducible rfl
      rotate_left
      · simp only [Act.put, zA_, z0_, z1_, i64_w, i32_w]
        rfl
      refine chain3_ (i1 := 4) (i2 := 5) (i3 := 6) (N1 := 92) (N2 := 93) (N3 := 94) (bs 8 31) (bs 8 63) (bs 8 127) rfl rfl rfl rfl rfl rfl rfl rfl rfl (by kernel_rfl) (by kernel_rfl) (by kernel_rfl) (by decide) (by decide) (by decide) [v1] (uNums [v1]) (uNums [a0] ++ uNums ((selL os a1 a2 a3 a4 a5 a6).take q)) (v) (.tmp 88) 24 Try.func24 (by kernel_rfl) rfl ?r1 rfl rfl (fun _ => rfl) (fun _ _ => rfl) (fun _ _ => rfl) (by simp) ?hlen (numsC (l := [v1]) (by simpa using hws) (by simp)) HO HS (fun w' hk => ⟨((hk.blk Bg1 (by decide) (by simp)).at 0 rfl), (((hk.blk Bg0 (by decide) (by simp)).cell o).trans T2.out)⟩) ?_
      case r1 => first | (go_simp; done) | (go_simp; rfl)
      case hlen => (have := uNums_len [v1]; simp only [List.length_cons, List.length_nil] at this; omega)
      intro x92 x93 v94 w9 HO_ hk HS_ hHeld
      replace Bg0 := hk.blk Bg0 (by decide) (by simp)
      replace Bg1 := hk.blk Bg1 (by decide) (by simp)
      replace Bb1 := hk.blk Bb1 (by decide) (by simp)
      clear HO hk HS; have HO := HO_; have HS := HS_; clear HO_ HS_
      refine norm_ (a' := ?_) ?_ ?_
      rotate_left
      · simp only [Act.put, zA_, z0_, z1_, i64_w, i32_w]
        rfl
      refine store_ (i4 := 7) (bs 8 255) rfl rfl rfl (by kernel_rfl) (by decide) (.tmp 6) (.tmp 94) g1 (v) (v94) ((uNums [a0] ++ uNums ((selL os a1 a2 a3 a4 a5 a6).take q)) ++ uNums [v1]) rfl rfl rfl HO HS Bg1 GEg1 ?_
      intro w10 HO_ hB_ hk HS_
      clear Bg1
      replace Bg0 := hk.blk Bg0 (by decide) (by simpa using Ng1_g0.symm)
      replace Bb1 := hk.blk Bb1 (by decide) (by simpa using Nb1_g1)
      clear HO hk HS; have HO := HO_; have HS := HS_; clear HO_ HS_
      have Bg1 := hB_; clear hB_
      refine done_ (by kernel_rfl) ?_
      go_wp2
      go_roundw
      case rel => exact ⟨q + 1, _, by go_num, by omega, by rw [T1.out, uNums_app, ← List.append_assoc]; exact HO, Bg0, Bg1, fun _ => ⟨b1, hA1, Bb1⟩, HS⟩
      case measure => simp [intOf]; omega
    · obtain rfl : q = os.length := by omega
      rw [← hsl, List.take_length] at HO
      clear hsl hP1 hm
      have kg0_0 := Bg0.at 0 rfl
      have kg1_0 := Bg1.at 0 rfl
      have hlen : (uNums [a0] ++ uNums (selL os a1 a2 a3 a4 a5 a6)).length ≤ 100000 := by
        have e1 := uNums_len (selL os a1 a2 a3 a4 a5 a6)
        have e2 : (selL os a1 a2 a3 a4 a5 a6).length = os.length := by simp [selL]
        have e3 := HL.out
        simp only [List.length_append] at *
        omega
      have hwl : W64 (l8.length : Int) := ⟨by omega, by omega⟩
      have hwr := w64 hwl
      go_wp2
      clear kg0_0 kg1_0
      refine start_ (n := 12) (S := fun w' => w'.cell? ⟨g1, 0, none⟩ = some (v) ∧ w'.cell? ⟨g0, 8, none⟩ = some (.slice A8 l8.length c8)) (ds := [11]) (bs 12 0) (by kernel_rfl) rfl rfl ⟨((Bg1.drew).at 0 rfl), ((Bg0.drew).at 8 rfl)⟩ (fun hHeld => ?_)
      generalize hWd : World.drew wr = w11 at hHeld ⊢
      have hl : Below wr.heap.size wr w11 := (by rw [← hWd]; exact below_drew1 (Below.refl _ _))
      clear hWd
      replace HO := HO.below hl; replace Bg0 := Bg0.below hl; replace Bg1 := Bg1.below hl; replace HS := HS.below hl; clear hl
      refine take_ (i := 0) (N := some 99) (v := ?_) (a' := ?_) (bs 12 1) rfl rfl (by kernel_rfl) (fun _ _ _ h => h) (Or.inl ⟨by rfl, ?_⟩) hHeld ?_ ?_
      rotate_left
      · rintro w' ⟨s0, s1⟩
        go_simp
        with_reducible rfl
      rotate_left
      · simp only [Act.put, zA_, z0_, z1_, i64_w, i32_w]
        rfl
      refine pure_ (i := 1) (N := some 100) (v := ?_) (a' := ?_) (bs 12 3) rfl rfl (by kernel_rfl) (fun _ _ _ h => h) (Or.inl ⟨by rfl, ?_⟩) ?_ ?_
      rotate_left
      · intro w'
        go_simp
        with_reducible rfl
      rotate_left
      · simp only [Act.put, zA_, z0_, z1_, i64_w, i32_w]
        rfl
      refine take_ (i := 2) (N := some 101) (v := ?_) (a' := ?_) (bs 12 7) rfl rfl (by kernel_rfl) (fun _ _ _ h => h) (Or.inl ⟨by rfl, ?_⟩) hHeld ?_ ?_
      rotate_left
      · rintro w' ⟨s0, s1⟩
        go_simp
        with_reducible rfl
      rotate_left
      · simp only [Act.put, zA_, z0_, z1_, i64_w, i32_w]
        rfl
      refine pure_ (i := 3) (N := some 102) (v := ?_) (a' := ?_) (bs 12 15) rfl rfl (by kernel_rfl) (fun _ _ _ h => h) (Or.inl ⟨by rfl, ?_⟩) ?_ ?_
      rotate_left
      · intro w'
        go_simp
        with_reducible rfl
      rotate_left
      · simp only [Act.put, zA_, z0_, z1_, i64_w, i32_w]
        rfl
      refine pure_ (i := 4) (N := some 103) (v := ?_) (a' := ?_) (bs 12 31) rfl rfl (by kernel_rfl) (fun _ _ _ h => h) (Or.inl ⟨by rfl, ?_⟩) ?_ ?_
      rotate_left
      · intro w'
        go_simp
        with_reducible rfl
      rotate_left
      · simp only [Act.put, zA_, z0_, z1_, i64_w, i32_w]
        rfl
      refine pure_ (i := 8) (N := some 107) (v := ?_) (a' := ?_) (bs 12 287) rfl rfl (by kernel_rfl) (fun _ _ _ h => h) (Or.inl ⟨by rfl, ?_⟩) ?_ ?_
      rotate_left
      · intro w'
        go_simp
        with_reducible rfl
      rotate_left
      · simp only [Act.put, zA_, z0_, z1_, i64_w, i32_w]
        rfl
      refine take_ (i := 9) (N := some 108) (v := ?_) (a' := ?_) (bs 12 799) rfl rfl (by kernel_rfl) (fun _ _ _ h => h) (Or.inl ⟨by rfl, ?_⟩) hHeld ?_ ?_
      rotate_left
      · rintro w' ⟨s0, s1⟩
        go_simp
        with_reducible rfl
      rotate_left
      · simp only [Act.put, zA_, z0_, z1_, i64_w, i32_w]
        rfl
      refine chain3_ (i1 := 5) (i2 := 6) (i3 := 7) (N1 := 104) (N2 := 105) (N3 := 106) (bs 12 831) (bs 12 895) (bs 12 1023) rfl rfl rfl rfl rfl rfl rfl rfl rfl (by kernel_rfl) (by kernel_rfl) (by kernel_rfl) (by decide) (by decide) (by decide) [(l8.length : Int)] (uNums [(l8.length : Int)]) (uNums [a0] ++ uNums (selL os a1 a2 a3 a4 a5 a6)) (v) (.tmp 99) 24 Try.func24 (by kernel_rfl) rfl ?r1 rfl rfl (fun _ => rfl) (fun _ _ => rfl) (fun _ _ => rfl) (by simp) ?hlen (numsC (l := [(l8.length : Int)]) (by simpa using hwl) (by simp)) HO HS (fun w' hk => ⟨((hk.blk Bg1 (by decide) (by simp)).at 0 rfl), ((hk.blk Bg0 (by decide) (by simp)).at 8 rfl)⟩) ?_
      case r1 => first | (go_simp; done) | (go_simp; rfl)
      case hlen => (have := uNums_len [(l8.length : Int)]; simp only [List.length_cons, List.length_nil] at this; omega)
      intro x104 x105 v106 w12 HO_ hk HS_ hHeld
      replace Bg0 := hk.blk Bg0 (by decide) (by simp)
      replace Bg1 := hk.blk Bg1 (by decide) (by simp)
      clear HO hk HS; have HO := HO_; have HS := HS_; clear HO_ HS_
      refine norm_ (a' := ?_) ?_ ?_
      rotate_left
      · simp only [Act.put, zA_, z0_, z1_, i64_w, i32_w]
        rfl
      have hlen2 := uNums_len [(l8.length : Int)]
      simp only [List.length_cons, List.length_nil] at hlen2
      have hlen3 : ((uNums [a0] ++ uNums (selL os a1 a2 a3 a4 a5 a6)) ++ uNums [(l8.length : Int)]).length ≤ 100008 := by (rw [List.length_append]; omega)
      refine appD_ (i3 := 10) (N3 := 109) (bs 12 2047) rfl rfl rfl (by kernel_rfl) (by decide) (.tmp 106) (.tmp 108) (v106) ((uNums [a0] ++ uNums (selL os a1 a2 a3 a4 a5 a6)) ++ uNums [(l8.length : Int)]) l8 A8 c8 rfl rfl rfl ?hlen HO HS (Kd.C_below HR8.out HS.out) (fun w' hk => ⟨((hk.blk Bg1 (by decide) (by simp)).at 0 rfl), ((hk.blk Bg0 (by decide) (by simp)).at 8 rfl)⟩) ?_
      case hlen => omega
      intro v109 w13 HO_ hk HS_ hHeld
      replace Bg0 := hk.blk Bg0 (by decide) (by simp)
      replace Bg1 := hk.blk Bg1 (by decide) (by simp)
      clear HO hk HS; have HO := HO_; have HS := HS_; clear HO_ HS_
      refine norm_ (a' := ?_) ?_ ?_
      rotate_left
      · simp only [Act.put, zA_, z0_, z1_, i64_w, i32_w]
        rfl
      refine store_ (i4 := 11) (bs 12 4095) rfl rfl rfl (by kernel_rfl) (by decide) (.tmp 6) (.tmp 109) g1 (v) (v109) (((uNums [a0] ++ uNums (selL os a1 a2 a3 a4 a5 a6)) ++ uNums [(l8.length : Int)]) ++ l8) rfl rfl rfl HO HS Bg1 GEg1 ?_
      intro w14 HO_ hB_ hk HS_
      clear Bg1
      replace Bg0 := hk.blk Bg0 (by decide) (by simpa using Ng1_g0.symm)
      clear HO hk HS; have HO := HO_; have HS := HS_; clear HO_ HS_
      have Bg1 := hB_; clear hB_
      refine done_ (by kernel_rfl) ?_
      have kg1_0 := Bg1.at 0 rfl
      go_wp2
      go_ret2
      exact ⟨_, rfl, HO, HS.out⟩
theorem frame_Encode.wayA11 (k : Nat) (a0 a1 a2 a3 a4 a5 a6 : Int) (A8 : Option Addr) (c8 : Nat) (l8 : List Int) (A9 : Option Addr) (c9 : Nat) (l9 : List S47) (w : World) (hc : frame_Check.f k a0 a1 a2 a3 a4 a5 a6 true l8 l9 = some 0) (os : List Nat) (ho : fOffs a0 = some os) (W1 : W64 a1) (W2 : W64 a2) (W3 : W64 a3) (W4 : W64 a4) (W5 : W64 a5) (W6 : W64 a6) (h8 : l8.length ≤ 1200) (hk0 : 0 ≤ a0) (hk1 : a0 ≤ 30) (hr8 : Kd.C (Kd.int .u8) w A8 l8.length l8) (hc8 : l8.length ≤ c8) (hr9 : Kd.C k47 w A9 l9.length l9) (hc9 : l9.length ≤ c9) (hn9 : l9.length = 0) (h14 : (a0 == 14) = true) :
    Calls Try.prog 13 #[.agg #[.int .i64 a0, .int .u64 a1, .int .u64 a2, .int .u64 a3, .int .u64 a4, .int .u64 a5, .int .u64 a6, .bool true, .slice A8 l8.length c8, .slice A9 l9.length c9]] w fun e w' => ∃ v, e = .returned (.tuple #[v, .int .i64 0]) ∧ OW w w' v (uNums [a0 + 1] ++ uNums (selL os a1 a2 a3 a4 a5 a6) ++ uNums [(l8.length : Int)] ++ l8) ∧ Below w.heap.size w w' := by
  have hu27 := Try.underlying27
  have HS := Since.refl w
  obtain ⟨hm, hl3⟩ := fOffs_mem ho
  have HR8 := Aside0.mk hr8; have HR9 := Aside0.mk hr9; have HC := Aside0.mk hc; have HF := Aside0.mk ho
  clear hr8 hr9 hc ho
  have hd9 : decide (0 < l9.length) = false := by simp [hn9]
  have hwk : W64 a0 := ⟨hk0, by omega⟩
  have hwk1 : W64 (a0 + 1) := ⟨by omega, by omega⟩
  clear hn9
  go_enter Try.func13, Try.ntmps13
  go_wp2_with (first | (refine seg_new rfl (N := 1) rfl [.int .i64 a0, .int .u64 a1, .int .u64 a2, .int .u64 a3, .int .u64 a4, .int .u64 a5, .int .u64 a6, .bool true, .slice A8 l8.length c8, .slice A9 l9.length c9] 27 ?hr ?_; (case hr => rfl); intro g0 hg w1 hn hl; have GEg0 := ge_new HS hg; clear hg; replace HS := HS.below hl; have Bg0 := hn; clear hl hn; have kg0_0 := Bg0.at 0 rfl; have kg0_7 := Bg0.at 7 rfl; have kg0_8 := Bg0.at 8 rfl; have kg0_9 := Bg0.at 9 rfl) | (refine seg_load rfl (N := 15) rfl 27 (.tmp 1) rfl g0 0 [.int .i64 a0, .int .u64 a1, .int .u64 a2, .int .u64 a3, .int .u64 a4, .int .u64 a5, .int .u64 a6, .bool true, .slice A8 l8.length c8, .slice A9 l9.length c9] rfl Bg0 rfl Try.underlying27 rfl (by kernel_rfl) ?_) | ((go_at_call 15); (with_reducible refine (frame_Check.calls k a0 a1 a2 a3 a4 a5 a6 true A8 c8 l8 A9 c9 l9 0 _ (Kd.C_below HR8.out HS.out) hc8 (Kd.C_below HR9.out HS.out) hc9 HC.out).mono ?_); rintro e w2 ⟨rfl, hl⟩; replace Bg0 := Bg0.below hl; replace HS := HS.below hl; clear hl; replace kg0_0 := Bg0.at 0 rfl; replace kg0_7 := Bg0.at 7 rfl; replace kg0_8 := Bg0.at 8 rfl; replace kg0_9 := Bg0.at 9 rfl) | (refine Kd.R_lit (Kd.int .u64) (w0 := w2) w2.heap.size 23 ?hg (N := 28) ?hd (xs := [(a0 + 1)]) (inner := [.int .u64 (a0 + 1)]) (ok := fun _ => True) (okp := fun _ => True) ?hr ?hp (fun _ hk => hk) trivial (Below.refl _ _) (Nat.le_refl _) (by simp) ?_; (case hd => rfl); (case hg => rfl); (case hr => first | (go_simp; done) | (go_simp; rfl)); (case hp => exact Kd.reps_scalar [(a0 + 1)]); intro vb w3 hRb hl hg_ hnew_; obtain ⟨Ab, cb, rfl⟩ := Kd.R_slice hRb; obtain ⟨_, hcb, hCb⟩ := Kd.R_reads' hRb; clear hg_ hnew_ hRb; replace Bg0 := Bg0.below hl; replace HS := HS.below hl; clear hl; replace kg0_0 := Bg0.at 0 rfl; replace kg0_7 := Bg0.at 7 rfl; replace kg0_8 := Bg0.at 8 rfl; replace kg0_9 := Bg0.at 9 rfl) | (go_at_call 24; refine (numsC (l := [(a0 + 1)]) (by simpa using hwk1) (by simp) Ab cb _ hCb hcb).mono ?_; rintro e w4 ⟨v2, rfl, hR2, hl⟩; obtain ⟨A2, cc2, rfl⟩ := Kd.R_slice hR2; have HO : OW w w4 (.slice A2 (uNums [(a0 + 1)]).length cc2) (uNums [(a0 + 1)]) := ⟨Kd.R_lower hR2 HS.le⟩; clear hR2 hCb hcb; replace Bg0 := Bg0.below hl; replace HS := HS.below hl; clear hl; replace kg0_0 := Bg0.at 0 rfl; replace kg0_7 := Bg0.at 7 rfl; replace kg0_8 := Bg0.at 8 rfl; replace kg0_9 := Bg0.at 9 rfl) | (refine seg_new rfl (N := 6) rfl [.slice none 0 0] 24 ?hr ?_; (case hr => rfl); intro g1 hg w5 hn hl; have Ng1_g0 := ne_new Bg0 hg; have GEg1 := ge_new HS hg; clear hg; replace Bg0 := Bg0.below hl; replace HO := HO.below hl; replace HS := HS.below hl; have Bg1 := hn; clear hl hn; replace kg0_0 := Bg0.at 0 rfl; replace kg0_7 := Bg0.at 7 rfl; replace kg0_8 := Bg0.at 8 rfl; replace kg0_9 := Bg0.at 9 rfl) | (refine seg_store rfl rfl 24 (.tmp 6) (.tmp 29) rfl g1 0 [.slice A2 (uNums [(a0 + 1)]).length cc2] [.slice A2 (uNums [(a0 + 1)]).length cc2] (.slice A2 (uNums [(a0 + 1)]).length cc2) rfl rfl rfl Bg1 (by kernel_rfl) (nle rfl) rfl rfl ?_; intro w6 hn hw; replace HO := HO.grown Bg1 (by decide) hw; replace Bg0 := Bg0.grown hw Ng1_g0.symm; replace HS := HS.grown hw GEg1; replace Bg1 := hn; clear hw; replace kg0_0 := Bg0.at 0 rfl; replace kg0_7 := Bg0.at 7 rfl; replace kg0_8 := Bg0.at 8 rfl; replace kg0_9 := Bg0.at 9 rfl; clear hn) | ((go_at_call 26); (with_reducible refine (fieldsC a0 g0 os _ (Bg0.at 0 rfl) HF.out).mono ?_); rintro e w7 ⟨A1, rfl, hP1, hl⟩; replace HO := HO.below hl; replace Bg0 := Bg0.below hl; replace Bg1 := Bg1.below hl; replace HS := HS.below hl; clear hl; clear kg0_7 kg0_8 kg0_9; replace kg0_0 := Bg0.at 0 rfl))
  have HL := Aside0.mk (show (uNums [(a0 + 1)]).length ≤ 8 by (have := uNums_len [(a0 + 1)]; simpa using this))
  go_loopw [84] (fun i wr => ∃ (q : Nat) (v : Value), i = .int .i64 q ∧ q ≤ os.length ∧ OW w wr v (uNums [(a0 + 1)] ++ uNums ((selL os a1 a2 a3 a4 a5 a6).take q)) ∧ Blk wr g0 27 [.int .i64 a0, .int .u64 a1, .int .u64 a2, .int .u64 a3, .int .u64 a4, .int .u64 a5, .int .u64 a6, .bool true, .slice A8 l8.length c8, .slice A9 l9.length c9] ∧ Blk wr g1 24 [v] ∧ PR wr A1 g0 os ∧ Since w wr) (fun i _ => os.length - (intOf i).toNat)
  case atStart => exact ⟨0, _, rfl, Nat.zero_le _, by rw [List.take_zero]; simpa [uNums] using HO, Bg0, Bg1, hP1, HS⟩
  case round =>
    clear kg0_0 hP1 Bg0 Bg1 HO HS
    obtain ⟨q, v, rfl, hq, HO, Bg0, Bg1, hP1, HS⟩ := hrel
    have hsl : (selL os a1 a2 a3 a4 a5 a6).length = os.length := by simp [selL]
    by_cases hlt : q < os.length
    · obtain ⟨o, hoq⟩ : ∃ o, os[q]? = some o := ⟨_, List.getElem?_eq_getElem hlt⟩
      have hom := List.mem_of_getElem? hoq
      have hmo := hm o hom
      have hne : os ≠ [] := by intro e; simp [e] at hlt
      obtain ⟨b1, hA1, Bb1⟩ := hP1 hne
      have Nb1_g1 : b1 ≠ g1 := blk_ne_of Bb1 Bg1 (by decide)
      have Nb1_g0 : b1 ≠ g0 := blk_ne_of Bb1 Bg0 (by decide)
      have k1 : wr.cell? ⟨b1, q, none⟩ = some (.pointer (some ⟨g0, o, none⟩)) := (Bb1.cell q).trans (by simp [hoq])
      have hco : ([.int .i64 a0, .int .u64 a1, .int .u64 a2, .int .u64 a3, .int .u64 a4, .int .u64 a5, .int .u64 a6, .bool true, .slice A8 l8.length c8, .slice A9 l9.length c9] : List Value)[o]? = some (.int .u64 (selA o a1 a2 a3 a4 a5 a6)) := by rw [← cellsZ_nil, cellsZ_at [] o hmo.1 hmo.2]; simp [zf]
      have htk : (selL os a1 a2 a3 a4 a5 a6).take (q + 1) = (selL os a1 a2 a3 a4 a5 a6).take q ++ [(selA o a1 a2 a3 a4 a5 a6)] := by rw [List.take_add_one]; simp [selL, hoq]
      have hws : W64 (selA o a1 a2 a3 a4 a5 a6) := selA_w' o W1 W2 W3 W4 W5 W6
      have hlen : (uNums [(a0 + 1)] ++ uNums ((selL os a1 a2 a3 a4 a5 a6).take q)).length ≤ 100000 := by
        have e1 := uNums_len ((selL os a1 a2 a3 a4 a5 a6).take q)
        have e2 := List.length_take_le q (selL os a1 a2 a3 a4 a5 a6)
        have e3 := HL.out
        simp only [List.length_append] at *
        omega
      generalize (selA o a1 a2 a3 a4 a5 a6) = v1 at hco htk hws
      have T1 := Aside0.mk htk; have T2 := Aside0.mk hco; have TA := Aside0.mk hsl
      clear htk hoq hom hmo hne hsl
      go_wp2
      refine start_ (n := 8) (S := fun w' => w'.cell? ⟨g1, 0, none⟩ = some (v) ∧ w'.cell? ⟨g0, o, none⟩ = some (.int .u64 v1)) (ds := [7]) (bs 8 0) (by kernel_rfl) rfl rfl ⟨((Bg1.drew).at 0 rfl), (((Bg0.drew).cell o).trans T2.out)⟩ (fun hHeld => ?_)
      generalize hWd : World.drew wr = w8 at hHeld ⊢
      have hl : Below wr.heap.size wr w8 := (by rw [← hWd]; exact below_drew1 (Below.refl _ _))
      clear hWd
      replace HO := HO.below hl; replace Bg0 := Bg0.below hl; replace Bg1 := Bg1.below hl; replace Bb1 := Bb1.below hl; replace HS := HS.below hl; clear hl
      refine take_ (i := 0) (N := some 88) (v := ?_) (a' := ?_) (bs 8 1) rfl rfl (by kernel_rfl) (fun _ _ _ h => h) (Or.inl ⟨by rfl, ?_⟩) hHeld ?_ ?_
      rotate_left
      · rintro w' ⟨s0, s1⟩
        go_simp
        with_reducible rfl
      rotate_left
      · simp only [Act.put, zA_, z0_, z1_, i64_w, i32_w]
        rfl
      refine pure_ (i := 1) (N := some 89) (v := ?_) (a' := ?_) (bs 8 3) rfl rfl (by kernel_rfl) (fun _ _ _ h => h) (Or.inl ⟨by rfl, ?_⟩) ?_ ?_
      rotate_left
      · intro w'
        go_simp
        with_reducible rfl
      rotate_left
      · simp only [Act.put, zA_, z0_, z1_, i64_w, i32_w]
        rfl
      refine pure_ (i := 2) (N := some 90) (v := ?_) (a' := ?_) (bs 8 7) rfl rfl (by kernel_rfl) (fun _ _ _ h => h) (Or.inl ⟨by rfl, ?_⟩) ?_ ?_
      rotate_left
      · intro w'
        go_simp
        with_reducible rfl
      rotate_left
      · simp only [Act.put, zA_, z0_, z1_, i64_w, i32_w]
        rfl
      refine take_ (i := 3) (N := some 91) (v := ?_) (a' := ?_) (bs 8 15) rfl rfl (by kernel_rfl) (fun _ _ _ h => h) (Or.inl ⟨by rfl, ?_⟩) hHeld ?_ ?_
      rotate_left
      · rintro w' ⟨s0, s1⟩
        go_simp
        with_reducible rfl
      rotate_left
      · simp only [Act.put, zA_, z0_, z1_, i64_w, i32_w]
        rfl
      refine chain3_ (i1 := 4) (i2 := 5) (i3 := 6) (N1 := 92) (N2 := 93) (N3 := 94) (bs 8 31) (bs 8 63) (bs 8 127) rfl rfl rfl rfl rfl rfl rfl rfl rfl (by kernel_rfl) (by kernel_rfl) (by kernel_rfl) (by decide) (by decide) (by decide) [v1] (uNums [v1]) (uNums [(a0 + 1)] ++ uNums ((selL os a1 a2 a3 a4 a5 a6).take q)) (v) (.tmp 88) 24 Try.func24 (by kernel_rfl) rfl ?r1 rfl rfl (fun _ => rfl) (fun _ _ => rfl) (fun _ _ => rfl) (by simp) ?hlen (numsC (l := [v1]) (by simpa using hws) (by simp)) HO HS (fun w' hk => ⟨((hk.blk Bg1 (by decide) (by simp)).at 0 rfl), (((hk.blk Bg0 (by decide) (by simp)).cell o).trans T2.out)⟩) ?_
      case r1 => first | (go_simp; done) | (go_simp; rfl)
      case hlen => (have := uNums_len [v1]; simp only [List.length_cons, List.length_nil] at this; omega)
      intro x92 x93 v94 w9 HO_ hk HS_ hHeld
      replace Bg0 := hk.blk Bg0 (by decide) (by simp)
      replace Bg1 := hk.blk Bg1 (by decide) (by simp)
      replace Bb1 := hk.blk Bb1 (by decide) (by simp)
      clear HO hk HS; have HO := HO_; have HS := HS_; clear HO_ HS_
      refine norm_ (a' := ?_) ?_ ?_
      rotate_left
      · simp only [Act.put, zA_, z0_, z1_, i64_w, i32_w]
        rfl
      refine store_ (i4 := 7) (bs 8 255) rfl rfl rfl (by kernel_rfl) (by decide) (.tmp 6) (.tmp 94) g1 (v) (v94) ((uNums [(a0 + 1)] ++ uNums ((selL os a1 a2 a3 a4 a5 a6).take q)) ++ uNums [v1]) rfl rfl rfl HO HS Bg1 GEg1 ?_
      intro w10 HO_ hB_ hk HS_
      clear Bg1
      replace Bg0 := hk.blk Bg0 (by decide) (by simpa using Ng1_g0.symm)
      replace Bb1 := hk.blk Bb1 (by decide) (by simpa using Nb1_g1)
      clear HO hk HS; have HO := HO_; have HS := HS_; clear HO_ HS_
      have Bg1 := hB_; clear hB_
      refine done_ (by kernel_rfl) ?_
      go_wp2
      go_roundw
      case rel => exact ⟨q + 1, _, by go_num, by omega, by rw [T1.out, uNums_app, ← List.append_assoc]; exact HO, Bg0, Bg1, fun _ => ⟨b1, hA1, Bb1⟩, HS⟩
      case measure => simp [intOf]; omega
    · obtain rfl : q = os.length := by omega
      rw [← hsl, List.take_length] at HO
      clear hsl hP1 hm
      have kg0_0 := Bg0.at 0 rfl
      have kg1_0 := Bg1.at 0 rfl
      have hlen : (uNums [(a0 + 1)] ++ uNums (selL os a1 a2 a3 a4 a5 a6)).length ≤ 100000 := by
        have e1 := uNums_len (selL os a1 a2 a3 a4 a5 a6)
        have e2 : (selL os a1 a2 a3 a4 a5 a6).length = os.length := by simp [selL]
        have e3 := HL.out
        simp only [List.length_append] at *
        omega
      have hwl : W64 (l8.length : Int) := ⟨by omega, by omega⟩
      have hwr := w64 hwl
      go_wp2
      clear kg0_0 kg1_0
      refine start_ (n := 12) (S := fun w' => w'.cell? ⟨g1, 0, none⟩ = some (v) ∧ w'.cell? ⟨g0, 8, none⟩ = some (.slice A8 l8.length c8)) (ds := [11]) (bs 12 0) (by kernel_rfl) rfl rfl ⟨((Bg1.drew).at 0 rfl), ((Bg0.drew).at 8 rfl)⟩ (fun hHeld => ?_)
      generalize hWd : World.drew wr = w11 at hHeld ⊢
      have hl : Below wr.heap.size wr w11 := (by rw [← hWd]; exact below_drew1 (Below.refl _ _))
      clear hWd
      replace HO := HO.below hl; replace Bg0 := Bg0.below hl; replace Bg1 := Bg1.below hl; replace HS := HS.below hl; clear hl
      refine take_ (i := 0) (N := some 99) (v := ?_) (a' := ?_) (bs 12 1) rfl rfl (by kernel_rfl) (fun _ _ _ h => h) (Or.inl ⟨by rfl, ?_⟩) hHeld ?_ ?_
      rotate_left
      · rintro w' ⟨s0, s1⟩
        go_simp
        with_reducible rfl
      rotate_left
      · simp only [Act.put, zA_, z0_, z1_, i64_w, i32_w]
        rfl
      refine pure_ (i := 1) (N := some 100) (v := ?_) (a' := ?_) (bs 12 3) rfl rfl (by kernel_rfl) (fun _ _ _ h => h) (Or.inl ⟨by rfl, ?_⟩) ?_ ?_
      rotate_left
      · intro w'
        go_simp
        with_reducible rfl
      rotate_left
      · simp only [Act.put, zA_, z0_, z1_, i64_w, i32_w]
        rfl
      refine take_ (i := 2) (N := some 101) (v := ?_) (a' := ?_) (bs 12 7) rfl rfl (by kernel_rfl) (fun _ _ _ h => h) (Or.inl ⟨by rfl, ?_⟩) hHeld ?_ ?_
      rotate_left
      · rintro w' ⟨s0, s1⟩
        go_simp
        with_reducible rfl
      rotate_left
      · simp only [Act.put, zA_, z0_, z1_, i64_w, i32_w]
        rfl
      refine pure_ (i := 3) (N := some 102) (v := ?_) (a' := ?_) (bs 12 15) rfl rfl (by kernel_rfl) (fun _ _ _ h => h) (Or.inl ⟨by rfl, ?_⟩) ?_ ?_
      rotate_left
      · intro w'
        go_simp
        with_reducible rfl
      rotate_left
      · simp only [Act.put, zA_, z0_, z1_, i64_w, i32_w]
        rfl
      refine pure_ (i := 4) (N := some 103) (v := ?_) (a' := ?_) (bs 12 31) rfl rfl (by kernel_rfl) (fun _ _ _ h => h) (Or.inl ⟨by rfl, ?_⟩) ?_ ?_
      rotate_left
      · intro w'
        go_simp
        with_reducible rfl
      rotate_left
      · simp only [Act.put, zA_, z0_, z1_, i64_w, i32_w]
        rfl
      refine pure_ (i := 8) (N := some 107) (v := ?_) (a' := ?_) (bs 12 287) rfl rfl (by kernel_rfl) (fun _ _ _ h => h) (Or.inl ⟨by rfl, ?_⟩) ?_ ?_
      rotate_left
      · intro w'
        go_simp
        with_reducible rfl
      rotate_left
      · simp only [Act.put, zA_, z0_, z1_, i64_w, i32_w]
        rfl
      refine take_ (i := 9) (N := some 108) (v := ?_) (a' := ?_) (bs 12 799) rfl rfl (by kernel_rfl) (fun _ _ _ h => h) (Or.inl ⟨by rfl, ?_⟩) hHeld ?_ ?_
      rotate_left
      · rintro w' ⟨s0, s1⟩
        go_simp
        with_reducible rfl
      rotate_left
      · simp only [Act.put, zA_, z0_, z1_, i64_w, i32_w]
        rfl
      refine chain3_ (i1 := 5) (i2 := 6) (i3 := 7) (N1 := 104) (N2 := 105) (N3 := 106) (bs 12 831) (bs 12 895) (bs 12 1023) rfl rfl rfl rfl rfl rfl rfl rfl rfl (by kernel_rfl) (by kernel_rfl) (by kernel_rfl) (by decide) (by decide) (by decide) [(l8.length : Int)] (uNums [(l8.length : Int)]) (uNums [(a0 + 1)] ++ uNums (selL os a1 a2 a3 a4 a5 a6)) (v) (.tmp 99) 24 Try.func24 (by kernel_rfl) rfl ?r1 rfl rfl (fun _ => rfl) (fun _ _ => rfl) (fun _ _ => rfl) (by simp) ?hlen (numsC (l := [(l8.length : Int)]) (by simpa using hwl) (by simp)) HO HS (fun w' hk => ⟨((hk.blk Bg1 (by decide) (by simp)).at 0 rfl), ((hk.blk Bg0 (by decide) (by simp)).at 8 rfl)⟩) ?_
      case r1 => first | (go_simp; done) | (go_simp; rfl)
      case hlen => (have := uNums_len [(l8.length : Int)]; simp only [List.length_cons, List.length_nil] at this; omega)
      intro x104 x105 v106 w12 HO_ hk HS_ hHeld
      replace Bg0 := hk.blk Bg0 (by decide) (by simp)
      replace Bg1 := hk.blk Bg1 (by decide) (by simp)
      clear HO hk HS; have HO := HO_; have HS := HS_; clear HO_ HS_
      refine norm_ (a' := ?_) ?_ ?_
      rotate_left
      · simp only [Act.put, zA_, z0_, z1_, i64_w, i32_w]
        rfl
      have hlen2 := uNums_len [(l8.length : Int)]
      simp only [List.length_cons, List.length_nil] at hlen2
      have hlen3 : ((uNums [(a0 + 1)] ++ uNums (selL os a1 a2 a3 a4 a5 a6)) ++ uNums [(l8.length : Int)]).length ≤ 100008 := by (rw [List.length_append]; omega)
      refine appD_ (i3 := 10) (N3 := 109) (bs 12 2047) rfl rfl rfl (by kernel_rfl) (by decide) (.tmp 106) (.tmp 108) (v106) ((uNums [(a0 + 1)] ++ uNums (selL os a1 a2 a3 a4 a5 a6)) ++ uNums [(l8.length : Int)]) l8 A8 c8 rfl rfl rfl ?hlen HO HS (Kd.C_below HR8.out HS.out) (fun w' hk => ⟨((hk.blk Bg1 (by decide) (by simp)).at 0 rfl), ((hk.blk Bg0 (by decide) (by simp)).at 8 rfl)⟩) ?_
      case hlen => omega
      intro v109 w13 HO_ hk HS_ hHeld
      replace Bg0 := hk.blk Bg0 (by decide) (by simp)
      replace Bg1 := hk.blk Bg1 (by decide) (by simp)
      clear HO hk HS; have HO := HO_; have HS := HS_; clear HO_ HS_
      refine norm_ (a' := ?_) ?_ ?_
      rotate_left
      · simp only [Act.put, zA_, z0_, z1_, i64_w, i32_w]
        rfl
      refine store_ (i4 := 11) (bs 12 4095) rfl rfl rfl (by kernel_rfl) (by decide) (.tmp 6) (.tmp 109) g1 (v) (v109) (((uNums [(a0 + 1)] ++ uNums (selL os a1 a2 a3 a4 a5 a6)) ++ uNums [(l8.length : Int)]) ++ l8) rfl rfl rfl HO HS Bg1 GEg1 ?_
      intro w14 HO_ hB_ hk HS_
      clear Bg1
      replace Bg0 := hk.blk Bg0 (by decide) (by simpa using Ng1_g0.symm)
      clear HO hk HS; have HO := HO_; have HS := HS_; clear HO_ HS_
      have Bg1 := hB_; clear hB_
      refine done_ (by kernel_rfl) ?_
      have kg1_0 := Bg1.at 0 rfl
      go_wp2
      go_ret2
      exact ⟨_, rfl, HO, HS.out⟩
def gapAt (l : List S47) (i : Nat) : Int := if i + 1 = l.length then IntKind.u64.wrap ((l.getD i z47).f1 - 1) else IntKind.u64.wrap (IntKind.u64.wrap ((l.getD (i + 1) z47).f0 - (l.getD i z47).f1) - 1)
def lenAt (l : List S47) (i : Nat) : Int := IntKind.u64.wrap (IntKind.u64.wrap ((l.getD i z47).f1 - (l.getD i z47).f0) - 1)
def spNums (l : List S47) (k : Nat) : List Int := (uptoR l.length k).flatMap fun i => [gapAt l i, lenAt l i]
theorem zip2 (T : Array Value) (a b : Value) (p q : Nat) : (#[p, q].zip #[a, b]).foldl (fun t (p, v) => t.setIfInBounds p v) T = (T.setIfInBounds p a).setIfInBounds q b := by simp
def IE (w0 : World) (g0 g1 g2 g3 : Nat) (cs : List Value) (sv : Value) (hd : List Int) (l : List S47) (pre : List (Fin l.length)) (W : World) : Prop :=
  ∃ (v : Value) (gv : Int) (bs : List Int), OW w0 W v (hd ++ bs) ∧ bs.length ≤ 16 * pre.length ∧ W64 gv ∧ Blk W g0 27 cs ∧ Blk W g1 24 [v] ∧ Blk W g2 23 [.int .u64 gv] ∧ Blk W g3 25 [sv] ∧ Since w0 W ∧
    ∀ k, pre.map Fin.val = uptoR l.length k → bs = uNums (spNums l k) ∧ (k < l.length → gv = gapAt l (l.length - 1 - k))
theorem IE.own {w0 : World} {B g0 g1 g2 g3 : Nat} {cs : List Value} {sv : Value} {hd : List Int} {l : List S47} (hB : w0.heap.size ≤ B) : OwnFrom B (IE w0 g0 g1 g2 g3 cs sv hd l) := by
  rintro s W W' row ⟨v, gv, bs, h1, h2, h3, h4, h5, h6, h7, h8, h9⟩ hg hr
  have k : Turn B W W' row := ⟨hg, hr⟩
  exact ⟨v, gv, bs, h1.turn k, h2, h3, h4.turn k, h5.turn k, h6.turn k, h7.turn k, h8.turn k hB, h9⟩
def AX (w0 : World) (l : List S47) (T : Array Value) (x : Fin l.length) (a' : Act) (W : World) : Prop :=
  ∃ bx, Blk W bx 47 [.int .u64 (l.getD x.val z47).f0, .int .u64 (l.getD x.val z47).f1] ∧ w0.heap.size ≤ bx ∧
    a' = ⟨(((T.setIfInBounds 52 (.int .i64 (x.val : Nat))).setIfInBounds 53 (spV l x.val)).setIfInBounds 9 (.int .i64 (x.val : Nat))).setIfInBounds 10 (.pointer (some ⟨bx, 0, none⟩)), []⟩
theorem AX.own {w0 : World} {B : Nat} {l : List S47} {T : Array Value} (x : Fin l.length) (a' : Act) : OwnFrom B (fun (_ : Unit) W => AX w0 l T x a' W) := by
  rintro s W W' row ⟨bx, h1, h2, h3⟩ hg hr
  exact ⟨bx, h1.turn (B := B) ⟨hg, hr⟩, h2, h3⟩
theorem uptoR_snoc {n k q : Nat} {pre : List Nat} (h : pre ++ [q] = uptoR n k) : ∃ j, k = j + 1 ∧ pre = uptoR n j ∧ q = n - 1 - j := by
  cases k with
  | zero => simp [uptoR] at h
  | succ j =>
    rw [uptoR_succ] at h
    have := List.append_inj' h rfl
    exact ⟨j, rfl, this.1, by simpa using this.2⟩
theorem spNums_succ (l : List S47) (k : Nat) : spNums l (k + 1) = spNums l k ++ [gapAt l (l.length - 1 - k), lenAt l (l.length - 1 - k)] := by simp [spNums, uptoR_succ]
theorem IE_step {l : List S47} {pre : List (Fin l.length)} {q : Nat} {hql : q < l.length} {bb : List Int} {gv gv2 f0 f1 : Int} (hpl : pre.length < l.length) (hf0 : (l.getD q z47).f0 = f0) (hf1 : (l.getD q z47).f1 = f1)
    (hk : ∀ k, pre.map Fin.val = uptoR l.length k → bb = uNums (spNums l k) ∧ (k < l.length → gv = gapAt l (l.length - 1 - k)))
    (h2 : q ≠ 0 → gv2 = IntKind.u64.wrap (IntKind.u64.wrap (f0 - (l.getD (q - 1) z47).f1) - 1)) :
    ∀ k, (pre ++ [(⟨q, hql⟩ : Fin l.length)]).map Fin.val = uptoR l.length k → bb ++ uNums [gv, IntKind.u64.wrap (IntKind.u64.wrap (f1 - f0) - 1)] = uNums (spNums l k) ∧ (k < l.length → gv2 = gapAt l (l.length - 1 - k)) := by
  intro k h
  rw [List.map_append] at h
  obtain ⟨j, rfl, hp, hq⟩ := uptoR_snoc (q := q) h
  have hpj : pre.length = j := by have := congrArg List.length hp; rw [List.length_map, uptoR_len] at this; exact this
  obtain ⟨rfl, hg⟩ := hk j hp
  have hgv := hg (by omega)
  rw [spNums_succ, uNums_app, ← hq]
  rw [← hq] at hgv
  refine ⟨by rw [hgv, ← hf0, ← hf1]; rfl, fun hlt => ?_⟩
  have hq0 : q ≠ 0 := by omega
  rw [h2 hq0, show l.length - 1 - (j + 1) = q - 1 by omega]
  unfold gapAt
  rw [if_neg (by omega), show q - 1 + 1 = q by omega, hf0]
theorem frame_Encode.wayB (k : Nat) (a0 a1 a2 a3 a4 a5 a6 : Int) (A8 : Option Addr) (c8 : Nat) (l8 : List Int) (A9 : Option Addr) (c9 : Nat) (l9 : List S47) (w : World) (hc : frame_Check.f k a0 a1 a2 a3 a4 a5 a6 false l8 l9 = some 0) (os : List Nat) (ho : fOffs a0 = some os) (W1 : W64 a1) (W2 : W64 a2) (W3 : W64 a3) (W4 : W64 a4) (W5 : W64 a5) (W6 : W64 a6) (h8 : l8.length ≤ 1200) (hk0 : 0 ≤ a0) (hk1 : a0 ≤ 30) (hr8 : Kd.C (Kd.int .u8) w A8 l8.length l8) (hc8 : l8.length ≤ c8) (hr9 : Kd.C k47 w A9 l9.length l9) (hc9 : l9.length ≤ c9) (hn9 : 0 < l9.length) (hn32 : l9.length ≤ 32) (h14 : (a0 == 14) = false) :
    Calls Try.prog 13 #[.agg #[.int .i64 a0, .int .u64 a1, .int .u64 a2, .int .u64 a3, .int .u64 a4, .int .u64 a5, .int .u64 a6, .bool false, .slice A8 l8.length c8, .slice A9 l9.length c9]] w fun e w' => ∃ v, e = .returned (.tuple #[v, .int .i64 0]) ∧ OW w w' v (uNums [a0] ++ uNums [(l9.length : Int)] ++ uNums (spNums l9 l9.length) ++ uNums (selL os a1 a2 a3 a4 a5 a6)) ∧ Below w.heap.size w w' := by
  have hu27 := Try.underlying27
  have hu47 := Try.underlying47
  have HS := Since.refl w
  obtain ⟨hm, hl3⟩ := fOffs_mem ho
  obtain ⟨ad9, rfl, hsp⟩ := spans_at hr9 hn9
  have HR8 := Aside0.mk hr8; have HR9 := Aside0.mk hr9; have HC := Aside0.mk hc; have HF := Aside0.mk ho; have HSP := Aside0.mk hsp
  clear hr8 hr9 hc ho hsp
  have hd9 : decide (0 < l9.length) = true := by simp [hn9]
  have hwk : W64 a0 := ⟨hk0, by omega⟩
  obtain ⟨m, hm9⟩ : ∃ m, l9.length = m + 1 := ⟨l9.length - 1, by omega⟩
  have hlm : (l9.length : Int) - 1 = (m : Int) := by omega
  have hwl : W64 (l9.length : Int) := ⟨by omega, by omega⟩
  have hwr := w64 hwl
  have HM9 := Aside0.mk hm9; clear hm9
  refine calls_of_wp_marks Try.func13 rfl ?_
  simp only [Try.ntmps13, List.size_toArray, List.length_cons, List.length_nil, Nat.reduceAdd, Nat.reduceSub, Array.replicate_succ, Array.replicate_zero, List.push_toArray, List.append_toArray, List.nil_append, List.cons_append]
  go_wp2_with (first | (refine seg_new rfl (N := 1) rfl [.int .i64 a0, .int .u64 a1, .int .u64 a2, .int .u64 a3, .int .u64 a4, .int .u64 a5, .int .u64 a6, .bool false, .slice A8 l8.length c8, .slice (some ad9) l9.length c9] 27 ?hr ?_; (case hr => rfl); intro g0 hg w1 hn hl; have GEg0 := ge_new HS hg; clear hg; replace HS := HS.below hl; have Bg0 := hn; clear hl hn; have kg0_0 := Bg0.at 0 rfl; have kg0_7 := Bg0.at 7 rfl; have kg0_8 := Bg0.at 8 rfl; have kg0_9 := Bg0.at 9 rfl) | (refine seg_load rfl (N := 15) rfl 27 (.tmp 1) rfl g0 0 [.int .i64 a0, .int .u64 a1, .int .u64 a2, .int .u64 a3, .int .u64 a4, .int .u64 a5, .int .u64 a6, .bool false, .slice A8 l8.length c8, .slice (some ad9) l9.length c9] rfl Bg0 rfl Try.underlying27 rfl (by kernel_rfl) ?_) | ((go_at_call 15); (with_reducible refine (frame_Check.calls k a0 a1 a2 a3 a4 a5 a6 false A8 c8 l8 (some ad9) c9 l9 0 _ (Kd.C_below HR8.out HS.out) hc8 (Kd.C_below HR9.out HS.out) hc9 HC.out).mono ?_); rintro e w2 ⟨rfl, hl⟩; replace Bg0 := Bg0.below hl; replace HS := HS.below hl; clear hl; replace kg0_0 := Bg0.at 0 rfl; replace kg0_7 := Bg0.at 7 rfl; replace kg0_8 := Bg0.at 8 rfl; replace kg0_9 := Bg0.at 9 rfl) | (refine Kd.R_lit (Kd.int .u64) (w0 := w2) w2.heap.size 23 ?hg (N := 28) ?hd (xs := [a0]) (inner := [.int .u64 a0]) (ok := fun _ => True) (okp := fun _ => True) ?hr ?hp (fun _ hk => hk) trivial (Below.refl _ _) (Nat.le_refl _) (by simp) ?_; (case hd => rfl); (case hg => rfl); (case hr => first | (go_simp; done) | (go_simp; rfl)); (case hp => exact Kd.reps_scalar [a0]); intro vb w3 hRb hl hg_ hnew_; obtain ⟨Ab, cb, rfl⟩ := Kd.R_slice hRb; obtain ⟨_, hcb, hCb⟩ := Kd.R_reads' hRb; clear hg_ hnew_ hRb; replace Bg0 := Bg0.below hl; replace HS := HS.below hl; clear hl; replace kg0_0 := Bg0.at 0 rfl; replace kg0_7 := Bg0.at 7 rfl; replace kg0_8 := Bg0.at 8 rfl; replace kg0_9 := Bg0.at 9 rfl) | (go_at_call 24; refine (numsC (l := [a0]) (by simpa using hwk) (by simp) Ab cb _ hCb hcb).mono ?_; rintro e w4 ⟨v2, rfl, hR2, hl⟩; obtain ⟨A2, cc2, rfl⟩ := Kd.R_slice hR2; have HO : OW w w4 (.slice A2 (uNums [a0]).length cc2) (uNums [a0]) := ⟨Kd.R_lower hR2 HS.le⟩; clear hR2 hCb hcb; replace Bg0 := Bg0.below hl; replace HS := HS.below hl; clear hl; replace kg0_0 := Bg0.at 0 rfl; replace kg0_7 := Bg0.at 7 rfl; replace kg0_8 := Bg0.at 8 rfl; replace kg0_9 := Bg0.at 9 rfl) | (refine seg_new rfl (N := 6) rfl [.slice none 0 0] 24 ?hr ?_; (case hr => rfl); intro g1 hg w5 hn hl; have Ng1_g0 := ne_new Bg0 hg; have GEg1 := ge_new HS hg; clear hg; replace Bg0 := Bg0.below hl; replace HO := HO.below hl; replace HS := HS.below hl; have Bg1 := hn; clear hl hn; replace kg0_0 := Bg0.at 0 rfl; replace kg0_7 := Bg0.at 7 rfl; replace kg0_8 := Bg0.at 8 rfl; replace kg0_9 := Bg0.at 9 rfl) | (refine seg_store rfl rfl 24 (.tmp 6) (.tmp 29) rfl g1 0 [.slice A2 (uNums [a0]).length cc2] [.slice A2 (uNums [a0]).length cc2] (.slice A2 (uNums [a0]).length cc2) rfl rfl rfl Bg1 (by kernel_rfl) (nle rfl) rfl rfl ?_; intro w6 hn hw; replace HO := HO.grown Bg1 (by decide) hw; replace Bg0 := Bg0.grown hw Ng1_g0.symm; replace HS := HS.grown hw GEg1; replace Bg1 := hn; clear hw; replace kg0_0 := Bg0.at 0 rfl; replace kg0_7 := Bg0.at 7 rfl; replace kg0_8 := Bg0.at 8 rfl; replace kg0_9 := Bg0.at 9 rfl; clear hn))
  have hlen : (uNums [a0]).length ≤ 8 := (by have := uNums_len [a0]; simpa using this)
  clear kg0_0 kg0_7 kg0_8 kg0_9
  refine start_ (n := 7) (S := fun w' => w'.cell? ⟨g1, 0, none⟩ = some (.slice A2 (uNums [a0]).length cc2)) (ds := [6]) (bs 7 0) (by kernel_rfl) rfl rfl ((Bg1.drew).at 0 rfl) (fun hHeld => ?_)
  generalize hWd : World.drew w6 = w7 at hHeld ⊢
  have hl : Below w6.heap.size w6 w7 := (by rw [← hWd]; exact below_drew1 (Below.refl _ _))
  clear hWd
  replace HO := HO.below hl; replace Bg0 := Bg0.below hl; replace Bg1 := Bg1.below hl; replace HS := HS.below hl; clear hl
  refine take_ (i := 0) (N := some 35) (v := ?_) (a' := ?_) (bs 7 1) rfl rfl (by kernel_rfl) (fun _ _ _ h => h) (Or.inl ⟨by rfl, ?_⟩) hHeld ?_ ?_
  rotate_left
  · intro w' s0
    go_simp
    with_reducible rfl
  rotate_left
  · simp only [Act.put, zA_, z0_, z1_, i64_w, i32_w]
    rfl
  refine pure_ (i := 1) (N := some 36) (v := ?_) (a' := ?_) (bs 7 3) rfl rfl (by kernel_rfl) (fun _ _ _ h => h) (Or.inl ⟨by rfl, ?_⟩) ?_ ?_
  rotate_left
  · intro w'
    go_simp
    with_reducible rfl
  rotate_left
  · simp only [Act.put, zA_, z0_, z1_, i64_w, i32_w]
    rfl
  refine pure_ (i := 2) (N := some 37) (v := ?_) (a' := ?_) (bs 7 7) rfl rfl (by kernel_rfl) (fun _ _ _ h => h) (Or.inl ⟨by rfl, ?_⟩) ?_ ?_
  rotate_left
  · intro w'
    go_simp
    with_reducible rfl
  rotate_left
  · simp only [Act.put, zA_, z0_, z1_, i64_w, i32_w]
    rfl
  refine chain3_ (i1 := 3) (i2 := 4) (i3 := 5) (N1 := 38) (N2 := 39) (N3 := 40) (bs 7 15) (bs 7 31) (bs 7 63) rfl rfl rfl rfl rfl rfl rfl rfl rfl (by kernel_rfl) (by kernel_rfl) (by kernel_rfl) (by decide) (by decide) (by decide) [(l9.length : Int)] (uNums [(l9.length : Int)]) (uNums [a0]) (.slice A2 (uNums [a0]).length cc2) (.tmp 35) 24 Try.func24 (by kernel_rfl) rfl ?r1 rfl rfl (fun _ => rfl) (fun _ _ => rfl) (fun _ _ => rfl) (by simp) ?hlen (numsC (l := [(l9.length : Int)]) (by simpa using hwl) (by simp)) HO HS (fun w' hk => ((hk.blk Bg1 (by decide) (by simp)).at 0 rfl)) ?_
  case r1 => first | (go_simp; done) | (go_simp; rfl)
  case hlen => (have := uNums_len [(l9.length : Int)]; simp only [List.length_cons, List.length_nil] at this; omega)
  intro x38 x39 v40 w8 HO_ hk HS_ hHeld
  replace Bg0 := hk.blk Bg0 (by decide) (by simp)
  replace Bg1 := hk.blk Bg1 (by decide) (by simp)
  clear HO hk HS; have HO := HO_; have HS := HS_; clear HO_ HS_
  refine norm_ (a' := ?_) ?_ ?_
  rotate_left
  · simp only [Act.put, zA_, z0_, z1_, i64_w, i32_w]
    rfl
  refine store_ (i4 := 6) (bs 7 127) rfl rfl rfl (by kernel_rfl) (by decide) (.tmp 6) (.tmp 40) g1 (.slice A2 (uNums [a0]).length cc2) (v40) (uNums [a0] ++ uNums [(l9.length : Int)]) rfl rfl rfl HO HS Bg1 GEg1 ?_
  intro w9 HO_ hB_ hk HS_
  clear Bg1
  replace Bg0 := hk.blk Bg0 (by decide) (by simpa using Ng1_g0.symm)
  clear HO hk HS; have HO := HO_; have HS := HS_; clear HO_ HS_
  have Bg1 := hB_; clear hB_
  refine done_ (by kernel_rfl) ?_
  clear hwr
  have ksp : w9.cell? ⟨(ad9.add (m * 2)).block, (ad9.add (m * 2)).off + 1, none⟩ = some (.int .u64 (l9.getD m z47).f1) := cell_since ((HSP.out m (by have := HM9.out; omega)).2) HS
  generalize ht : (l9.getD m z47).f1 = tl at ksp
  have HT := Aside0.mk ht; clear ht
  have kg0_9 := Bg0.at 9 rfl
  go_wp2_with (first | (refine seg_new rfl (N := 8) rfl [.int .u64 0] 23 ?hr ?_; (case hr => rfl); intro g2 hg w10 hn hl; have Ng2_g0 := ne_new Bg0 hg; have Ng2_g1 := ne_new Bg1 hg; have GEg2 := ge_new HS hg; clear hg; replace Bg0 := Bg0.below hl; replace Bg1 := Bg1.below hl; replace HO := HO.below hl; replace HS := HS.below hl; have Bg2 := hn; clear hl hn; replace kg0_9 := Bg0.at 9 rfl; clear ksp) | (refine seg_store rfl rfl 23 (.tmp 8) (.tmp 48) rfl g2 0 [.int .u64 (IntKind.u64.wrap (tl - 1))] [.int .u64 (IntKind.u64.wrap (tl - 1))] (.int .u64 (IntKind.u64.wrap (tl - 1))) rfl rfl rfl Bg2 (by kernel_rfl) (nle rfl) rfl rfl ?_; intro w11 hn hw; replace HO := HO.grown Bg2 (by decide) hw; replace Bg0 := Bg0.grown hw Ng2_g0.symm; replace Bg1 := Bg1.grown hw Ng2_g1.symm; replace HS := HS.grown hw GEg2; replace Bg2 := hn; clear hw; replace kg0_9 := Bg0.at 9 rfl; clear hn) | ((go_at_call 25); (with_reducible refine (backwardC ..).mono ?_); rintro e w12 ⟨g3, rfl, Bg3, hge3, hl⟩; have Ng3_g0 : g3 ≠ g0 := (blk_ne_of Bg3 (Bg0.below hl) (by decide)); have Ng3_g1 : g3 ≠ g1 := (blk_ne_of Bg3 (Bg1.below hl) (by decide)); have Ng3_g2 : g3 ≠ g2 := (blk_ne_of Bg3 (Bg2.below hl) (by decide)); have GEg3 : w.heap.size ≤ g3 := Nat.le_trans HS.le hge3; clear hge3; replace HO := HO.below hl; replace Bg0 := Bg0.below hl; replace Bg1 := Bg1.below hl; replace Bg2 := Bg2.below hl; replace HS := HS.below hl; clear hl; replace kg0_9 := Bg0.at 9 rfl))
  refine named_frame fun T hT => ?_
  refine (wpIn_wide (n := 9)).1 ?_
  refine wpIn_rangeFunc_ownH (F := Fence.wide) rfl (by omega) (gf := 38) (lb := #[.pointer (some ⟨g3, 0, none⟩)]) (by rw [hT]; rfl) trivial (enters_of Try.func38 (by kernel_rfl) rfl)
    (backward_stops 8 g3 w.heap.size c9 ad9 l9 (by omega) w12 HS.le ?adb (blk_lt Bg3.out) (Bg3.at 0 rfl) ?c0 ?c1) BKeep.trans (BKeep.turn HS.le) (Below.refl _ _) (fun _ => rfl)
    (IE w g0 g1 g2 g3 [.int .i64 a0, .int .u64 a1, .int .u64 a2, .int .u64 a3, .int .u64 a4, .int .u64 a5, .int .u64 a6, .bool false, .slice A8 l8.length c8, .slice (some ad9) l9.length c9] (.slice (some ad9) l9.length c9) (uNums [a0] ++ uNums [(l9.length : Int)]) l9) (fun _ _ _ => False) (IE.own HS.le) (fun _ _ _ _ _ h _ _ => h) ?start (AX w l9 T) AX.own ?assign ?body ?done ?stop
  case adb => exact (add_block ad9 (0 * 2)) ▸ World.block_lt_of_cell? w _ (HSP.out 0 hn9).1
  case c0 => exact fun j hj => cell_since (HSP.out j hj).1 HS
  case c1 => exact fun j hj => cell_since (HSP.out j hj).2 HS
  case start =>
    refine ⟨_, _, [], by rw [List.append_nil]; exact HO, by simp, w64_wrap _, Bg0, Bg1, Bg2, Bg3, HS, fun j hj => ?_⟩
    have hj0 : j = 0 := by have := congrArg List.length hj; simpa [uptoR_len] using this.symm
    subst hj0
    refine ⟨by simp [spNums, uptoR, uNums], fun _ => ?_⟩
    rw [← HT.out]
    have := HM9.out
    unfold gapAt
    rw [if_pos (by omega), show l9.length - 1 - 0 = m by omega]
  case assign =>
    rintro l0 pre ⟨q, hql⟩ W K ⟨v, gv, bs, HO, hbl, hgv, Bg0, Bg1, Bg2, Bg3, HS, hk⟩ hK
    have HI : IE w g0 g1 g2 g3 [.int .i64 a0, .int .u64 a1, .int .u64 a2, .int .u64 a3, .int .u64 a4, .int .u64 a5, .int .u64 a6, .bool false, .slice A8 l8.length c8, .slice (some ad9) l9.length c9] (.slice (some ad9) l9.length c9) (uNums [a0] ++ uNums [(l9.length : Int)]) l9 pre W := ⟨v, gv, bs, HO, hbl, hgv, Bg0, Bg1, Bg2, Bg3, HS, hk⟩
    have HK := Aside0.mk hK
    have HKI := Aside0.mk hk
    clear hK hk
    have HT0 := Aside0.mk hT
    refine Eq.mpr (congrArg (fun z => Code.wpIn _ _ _ _ _ ⟨z, []⟩ W) (zip2 T (.int .i64 (q : Nat)) (spV l9 q) 52 53)) ?_
    rw [hT]
    clear hT
    unfold spV
    simp only [zA_, z0_, z1_]
    have HKC := KC.refl W
    generalize hf0 : (l9.getD q z47).f0 = f0
    generalize hf1 : (l9.getD q z47).f1 = f1
    have HF0 := Aside0.mk hf0; have HF1 := Aside0.mk hf1
    clear hf0 hf1
    refine wpIn_seq ?_
    refine regIn (by rintro ⟨_, _, h⟩; exact h) (by kernel_rfl) ?_
    go_wp2
    refine regIn (by rintro ⟨_, _, h⟩; exact h) (by kernel_rfl) ?_
    go_wp2_with (first | (refine seg_new rfl (N := 10) rfl [.int .u64 0, .int .u64 0] 47 ?hr ?_; (case hr => rfl); intro g4 hg u1 hn hl; have Ng4_g0 := ne_new Bg0 hg; have Ng4_g1 := ne_new Bg1 hg; have Ng4_g2 := ne_new Bg2 hg; have Ng4_g3 := ne_new Bg3 hg; have GEg4 := ge_new HS hg; clear hg; replace Bg0 := Bg0.below hl; replace Bg1 := Bg1.below hl; replace Bg2 := Bg2.below hl; replace Bg3 := Bg3.below hl; replace HKC := HKC.trans (KC.below hl); replace HO := HO.below hl; replace HS := HS.below hl; have Bg4 := hn; clear hl hn) | (refine seg_store rfl rfl 47 (.tmp 10) (.tmp 53) rfl g4 0 [.int .u64 f0, .int .u64 f1] [.int .u64 f0, .int .u64 f1] (.agg #[.int .u64 f0, .int .u64 f1]) rfl rfl rfl Bg4 (by kernel_rfl) (nle rfl) rfl rfl ?_; intro u2 hn hw; replace HO := HO.grown Bg4 (by decide) hw; replace HKC := HKC.trans (KC.grown Bg4 hw); replace Bg0 := Bg0.grown hw Ng4_g0.symm; replace Bg1 := Bg1.grown hw Ng4_g1.symm; replace Bg2 := Bg2.grown hw Ng4_g2.symm; replace Bg3 := Bg3.grown hw Ng4_g3.symm; replace HS := HS.grown hw GEg4; replace Bg4 := hn; clear hw; clear hn))
    obtain ⟨v_, gv_, bs_, _, _, _, _, _, _, B3_, HS_, _⟩ := HI
    refine HK.out _ _ (HKC.from _) ⟨below_of HS_ HS HKC.size, fun u_ hu_ => ?_⟩ ⟨v, gv, bs, HO, hbl, hgv, Bg0, Bg1, Bg2, Bg3, HS, HKI.out⟩ ⟨g4, ?_, GEg4, ?_⟩
    · rw [B3_.at 0 rfl] at hu_
      rw [← hu_]
      exact Bg3.at 0 rfl
    · show Blk _ _ _ [.int .u64 (l9.getD q z47).f0, .int .u64 (l9.getD q z47).f1]
      rw [HF0.out, HF1.out]
      exact Bg4
    · show (⟨_, _⟩ : Act) = ⟨(((T.setIfInBounds 52 (.int .i64 (q : Nat))).setIfInBounds 53 (spV l9 q)).setIfInBounds 9 (.int .i64 (q : Nat))).setIfInBounds 10 (.pointer (some ⟨g4, 0, none⟩)), []⟩
      rw [HT0.out]
      unfold spV
      rw [HF0.out, HF1.out]
      simp only [zA_, z0_, z1_]
  case body =>
    rintro l0 pre ⟨q, hql⟩ a' W hl0 hrec ⟨v, gv, bb, HO, hbl, hgv, Bg0, Bg1, Bg2, Bg3, HS, hk⟩ ⟨g4, Bg4, GEg4, rfl⟩ hpl
    have HKI := Aside0.mk hk; have B3_ := Aside0.mk Bg3; have HS_ := Aside0.mk HS
    clear hk
    have Ng4_g0 : g4 ≠ g0 := blk_ne_of Bg4 Bg0 (by decide)
    have Ng4_g1 : g4 ≠ g1 := blk_ne_of Bg4 Bg1 (by decide)
    have Ng4_g2 : g4 ≠ g2 := blk_ne_of Bg4 Bg2 (by decide)
    have Ng4_g3 : g4 ≠ g3 := blk_ne_of Bg4 Bg3 (by decide)
    rw [hT]
    clear hT
    unfold spV
    dsimp only at Bg4 ⊢
    simp only [zA_, z0_, z1_]
    have HKC := KC.refl W
    have hlen : ((uNums [a0] ++ uNums [(l9.length : Int)]) ++ bb).length ≤ 100000 := by
      have e1 := uNums_len [a0]; have e2 := uNums_len [(l9.length : Int)]
      simp only [List.length_append, List.length_cons, List.length_nil] at *
      omega
    generalize hf0 : (l9.getD q z47).f0 = f0 at Bg4 ⊢
    generalize hf1 : (l9.getD q z47).f1 = f1 at Bg4 ⊢
    have HF0 := Aside0.mk hf0; have HF1 := Aside0.mk hf1
    clear hf0 hf1
    refine wpIn_block ?_
    refine wpIn_seq ?_
    refine regIn_draw (by rintro ⟨_, _, h⟩; exact h) (by kernel_rfl) (m := 12) (S := fun w' => w'.cell? ⟨g1, 0, none⟩ = some (v) ∧ w'.cell? ⟨g2, 0, none⟩ = some (.int .u64 gv) ∧ w'.cell? ⟨g4, 1, none⟩ = some (.int .u64 f1) ∧ w'.cell? ⟨g4, 0, none⟩ = some (.int .u64 f0)) (ds := [11]) (bs 12 0) (by kernel_rfl) rfl rfl ⟨((Bg1.drew).at 0 rfl), ((Bg2.drew).at 0 rfl), ((Bg4.drew).at 1 rfl), ((Bg4.drew).at 0 rfl)⟩ (fun hHeld => ?_)
    generalize hWd : World.drew W = u1 at hHeld ⊢
    have hl : Below W.heap.size W u1 := (by rw [← hWd]; exact below_drew1 (Below.refl _ _))
    clear hWd
    replace HO := HO.below hl; replace HKC := HKC.trans (KC.below hl); replace Bg0 := Bg0.below hl; replace Bg1 := Bg1.below hl; replace Bg2 := Bg2.below hl; replace Bg3 := Bg3.below hl; replace Bg4 := Bg4.below hl; replace HS := HS.below hl; clear hl
    refine take_ (i := 0) (N := some 54) (v := ?_) (a' := ?_) (bs 12 1) rfl rfl (by kernel_rfl) (fun _ _ _ h => h) (Or.inl ⟨by rfl, ?_⟩) hHeld ?_ ?_
    rotate_left
    · rintro w' ⟨s0, s1, s2, s3⟩
      go_simp
      with_reducible rfl
    rotate_left
    · simp only [Act.put, zA_, z0_, z1_, i64_w, i32_w]
      rfl
    refine take_ (i := 1) (N := some 55) (v := ?_) (a' := ?_) (bs 12 3) rfl rfl (by kernel_rfl) (fun _ _ _ h => h) (Or.inl ⟨by rfl, ?_⟩) hHeld ?_ ?_
    rotate_left
    · rintro w' ⟨s0, s1, s2, s3⟩
      go_simp
      with_reducible rfl
    rotate_left
    · simp only [Act.put, zA_, z0_, z1_, i64_w, i32_w]
      rfl
    refine pure_ (i := 2) (N := some 56) (v := ?_) (a' := ?_) (bs 12 7) rfl rfl (by kernel_rfl) (fun _ _ _ h => h) (Or.inl ⟨by rfl, ?_⟩) ?_ ?_
    rotate_left
    · intro w'
      go_simp
      with_reducible rfl
    rotate_left
    · simp only [Act.put, zA_, z0_, z1_, i64_w, i32_w]
      rfl
    refine take_ (i := 3) (N := some 57) (v := ?_) (a' := ?_) (bs 12 15) rfl rfl (by kernel_rfl) (fun _ _ _ h => h) (Or.inl ⟨by rfl, ?_⟩) hHeld ?_ ?_
    rotate_left
    · rintro w' ⟨s0, s1, s2, s3⟩
      go_simp
      with_reducible rfl
    rotate_left
    · simp only [Act.put, zA_, z0_, z1_, i64_w, i32_w]
      rfl
    refine pure_ (i := 4) (N := some 58) (v := ?_) (a' := ?_) (bs 12 31) rfl rfl (by kernel_rfl) (fun _ _ _ h => h) (Or.inl ⟨by rfl, ?_⟩) ?_ ?_
    rotate_left
    · intro w'
      go_simp
      with_reducible rfl
    rotate_left
    · simp only [Act.put, zA_, z0_, z1_, i64_w, i32_w]
      rfl
    refine take_ (i := 5) (N := some 59) (v := ?_) (a' := ?_) (bs 12 63) rfl rfl (by kernel_rfl) (fun _ _ _ h => h) (Or.inl ⟨by rfl, ?_⟩) hHeld ?_ ?_
    rotate_left
    · rintro w' ⟨s0, s1, s2, s3⟩
      go_simp
      with_reducible rfl
    rotate_left
    · simp only [Act.put, zA_, z0_, z1_, i64_w, i32_w]
      rfl
    refine pure_ (i := 6) (N := some 60) (v := ?_) (a' := ?_) (bs 12 127) rfl rfl (by kernel_rfl) (fun _ _ _ h => h) (Or.inl ⟨by rfl, ?_⟩) ?_ ?_
    rotate_left
    · intro w'
      go_simp
      with_reducible rfl
    rotate_left
    · simp only [Act.put, zA_, z0_, z1_, i64_w, i32_w]
      rfl
    refine pure_ (i := 7) (N := some 61) (v := ?_) (a' := ?_) (bs 12 255) rfl rfl (by kernel_rfl) (fun _ _ _ h => h) (Or.inl ⟨by rfl, ?_⟩) ?_ ?_
    rotate_left
    · intro w'
      go_simp
      with_reducible rfl
    rotate_left
    · simp only [Act.put, zA_, z0_, z1_, i64_w, i32_w]
      rfl
    refine chain3_ (i1 := 8) (i2 := 9) (i3 := 10) (N1 := 62) (N2 := 63) (N3 := 64) (bs 12 511) (bs 12 1023) (bs 12 2047) rfl rfl rfl rfl rfl rfl rfl rfl rfl (by kernel_rfl) (by kernel_rfl) (by kernel_rfl) (by decide) (by decide) (by decide) [gv, (IntKind.u64.wrap (IntKind.u64.wrap (f1 - f0) - 1))] (uNums [gv, (IntKind.u64.wrap (IntKind.u64.wrap (f1 - f0) - 1))]) ((uNums [a0] ++ uNums [(l9.length : Int)]) ++ bb) (v) (.tmp 54) 24 Try.func24 (by kernel_rfl) rfl ?r1 rfl rfl (fun _ => rfl) (fun _ _ => rfl) (fun _ _ => rfl) (by simp) ?hlen (numsC (l := [gv, (IntKind.u64.wrap (IntKind.u64.wrap (f1 - f0) - 1))]) (by simpa using ⟨hgv, w64_wrap _⟩) (by simp)) HO HS (fun w' hk => ⟨((hk.blk Bg1 (by decide) (by simp)).at 0 rfl), ((hk.blk Bg2 (by decide) (by simp)).at 0 rfl), ((hk.blk Bg4 (by decide) (by simp)).at 1 rfl), ((hk.blk Bg4 (by decide) (by simp)).at 0 rfl)⟩) ?_
    case r1 => first | (go_simp; done) | (go_simp; rfl)
    case hlen => (have := uNums_len [gv, (IntKind.u64.wrap (IntKind.u64.wrap (f1 - f0) - 1))]; simp only [List.length_cons, List.length_nil] at this; omega)
    intro x62 x63 v64 u2 HO_ hk HS_ hHeld
    replace Bg0 := hk.blk Bg0 (by decide) (by simp)
    replace Bg1 := hk.blk Bg1 (by decide) (by simp)
    replace Bg2 := hk.blk Bg2 (by decide) (by simp)
    replace Bg3 := hk.blk Bg3 (by decide) (by simp)
    replace Bg4 := hk.blk Bg4 (by decide) (by simp)
    replace HKC := HKC.trans (KC.ko0 hk)
    clear HO hk HS; have HO := HO_; have HS := HS_; clear HO_ HS_
    refine norm_ (a' := ?_) ?_ ?_
    rotate_left
    · simp only [Act.put, zA_, z0_, z1_, i64_w, i32_w]
      rfl
    refine store_ (i4 := 11) (bs 12 4095) rfl rfl rfl (by kernel_rfl) (by decide) (.tmp 6) (.tmp 64) g1 (v) (v64) (((uNums [a0] ++ uNums [(l9.length : Int)]) ++ bb) ++ uNums [gv, (IntKind.u64.wrap (IntKind.u64.wrap (f1 - f0) - 1))]) rfl rfl rfl HO HS Bg1 GEg1 ?_
    intro u3 HO_ hB_ hk HS_
    replace HKC := HKC.trans (KC.ko Bg1 hk)
    clear Bg1
    replace Bg0 := hk.blk Bg0 (by decide) (by simpa using Ng1_g0.symm)
    replace Bg2 := hk.blk Bg2 (by decide) (by simpa using Ng2_g1)
    replace Bg3 := hk.blk Bg3 (by decide) (by simpa using Ng3_g1)
    replace Bg4 := hk.blk Bg4 (by decide) (by simpa using Ng4_g1)
    clear HO hk HS; have HO := HO_; have HS := HS_; clear HO_ HS_
    have Bg1 := hB_; clear hB_
    refine done_ (by kernel_rfl) ?_
    refine wpIn_seq ?_
    refine regIn (by rintro ⟨_, _, h⟩; exact h) (by kernel_rfl) ?_
    by_cases hq0 : q = 0
    · have hd0 : decide (0 < q) = false := by simp [hq0]
      go_wp2
      refine wpIn_cond_false (by rfl) ?_
      refine wpIn_skip ?_
      refine (show (KeepsFrom _ _ _ ∧ BKeep _ _ _ _ ∧ IE w g0 g1 g2 g3 [.int .i64 a0, .int .u64 a1, .int .u64 a2, .int .u64 a3, .int .u64 a4, .int .u64 a5, .int .u64 a6, .bool false, .slice A8 l8.length c8, .slice (some ad9) l9.length c9] (.slice (some ad9) l9.length c9) (uNums [a0] ++ uNums [(l9.length : Int)]) l9 (pre ++ [⟨q, hql⟩]) _) from ⟨HKC.from _, ⟨below_of HS_.out HS HKC.size, fun u_ hu_ => ?_⟩, ⟨_, gv, bb ++ uNums [gv, (IntKind.u64.wrap (IntKind.u64.wrap (f1 - f0) - 1))], ?_, ?_, ?_, Bg0, Bg1, Bg2, Bg3, HS, ?_⟩⟩)
      · rw [B3_.out.at 0 rfl] at hu_
        rw [← hu_]
        exact Bg3.at 0 rfl
      · rw [← List.append_assoc]
        exact HO
      · have e1 := uNums_len [gv, (IntKind.u64.wrap (IntKind.u64.wrap (f1 - f0) - 1))]
        simp only [List.length_append, List.length_cons, List.length_nil] at e1 ⊢
        omega
      · exact hgv
      · exact IE_step (hql := hql) hpl HF0.out HF1.out HKI.out (fun hne => absurd hq0 hne)
    · have hd0 : decide (0 < q) = true := by simp; omega
      obtain ⟨p, hp1⟩ : ∃ p, q = p + 1 := ⟨q - 1, by omega⟩
      have hpi : (q : Int) - 1 = (p : Int) := by omega
      have hpn : p < l9.length := by omega
      have hwp : wrap64 (p : Int) = (p : Int) := by unfold wrap64; omega
      have HP1 := Aside0.mk hp1
      clear hp1
      go_wp2
      refine wpIn_cond_true (by rfl) ?_
      have ksp : u3.cell? ⟨(ad9.add (p * 2)).block, (ad9.add (p * 2)).off + 1, none⟩ = some (.int .u64 (l9.getD p z47).f1) := cell_since ((HSP.out p (by have := HP1.out; omega)).2) HS
      generalize hfp : (l9.getD p z47).f1 = fp at ksp
      have HFP := Aside0.mk hfp
      clear hfp
      refine regIn_draw (by rintro ⟨_, _, h⟩; exact h) (by kernel_rfl) (m := 12) (S := fun w' => w'.cell? ⟨g4, 0, none⟩ = some (.int .u64 f0) ∧ w'.cell? ⟨g0, 9, none⟩ = some (.slice (some ad9) l9.length c9) ∧ w'.cell? ⟨(ad9.add (p * 2)).block, (ad9.add (p * 2)).off + 1, none⟩ = some (.int .u64 fp)) (ds := [11]) (bs 12 0) (by kernel_rfl) rfl rfl ⟨((Bg4.drew).at 0 rfl), ((Bg0.drew).at 9 rfl), (show _ from ksp)⟩ (fun hHeld => ?_)
      generalize hWd : World.drew u3 = u4 at hHeld ⊢
      have hl : Below u3.heap.size u3 u4 := (by rw [← hWd]; exact below_drew1 (Below.refl _ _))
      clear hWd
      replace HO := HO.below hl; replace HKC := HKC.trans (KC.below hl); replace Bg0 := Bg0.below hl; replace Bg2 := Bg2.below hl; replace Bg3 := Bg3.below hl; replace Bg4 := Bg4.below hl; replace Bg1 := Bg1.below hl; replace HS := HS.below hl; clear hl
      refine pure_ (i := 0) (N := some 67) (v := ?_) (a' := ?_) (bs 12 1) rfl rfl (by kernel_rfl) (fun _ _ _ h => h) (Or.inl ⟨by rfl, ?_⟩) ?_ ?_
      rotate_left
      · intro w'
        go_simp
        with_reducible rfl
      rotate_left
      · simp only [Act.put, zA_, z0_, z1_, i64_w, i32_w]
        rfl
      refine take_ (i := 1) (N := some 68) (v := ?_) (a' := ?_) (bs 12 3) rfl rfl (by kernel_rfl) (fun _ _ _ h => h) (Or.inl ⟨by rfl, ?_⟩) hHeld ?_ ?_
      rotate_left
      · rintro w' ⟨s0, s1, s2⟩
        go_simp
        with_reducible rfl
      rotate_left
      · simp only [Act.put, zA_, z0_, z1_, i64_w, i32_w]
        rfl
      refine pure_ (i := 2) (N := some 69) (v := ?_) (a' := ?_) (bs 12 7) rfl rfl (by kernel_rfl) (fun _ _ _ h => h) (Or.inl ⟨by rfl, ?_⟩) ?_ ?_
      rotate_left
      · intro w'
        go_simp
        with_reducible rfl
      rotate_left
      · simp only [Act.put, zA_, z0_, z1_, i64_w, i32_w]
        rfl
      refine take_ (i := 3) (N := some 70) (v := ?_) (a' := ?_) (bs 12 15) rfl rfl (by kernel_rfl) (fun _ _ _ h => h) (Or.inl ⟨by rfl, ?_⟩) hHeld ?_ ?_
      rotate_left
      · rintro w' ⟨s0, s1, s2⟩
        go_simp
        with_reducible rfl
      rotate_left
      · simp only [Act.put, zA_, z0_, z1_, i64_w, i32_w]
        rfl
      refine pure_ (i := 4) (N := some 71) (v := ?_) (a' := ?_) (bs 12 31) rfl rfl (by kernel_rfl) (fun _ _ _ h => h) (Or.inl ⟨by rfl, ?_⟩) ?_ ?_
      rotate_left
      · intro w'
        go_simp
        with_reducible rfl
      rotate_left
      · simp only [Act.put, zA_, z0_, z1_, i64_w, i32_w]
        rfl
      refine pure_ (i := 5) (N := some 72) (v := ?_) (a' := ?_) (bs 12 63) rfl rfl (by kernel_rfl) (fun _ _ _ h => h) (Or.inl ⟨by rfl, ?_⟩) ?_ ?_
      rotate_left
      · intro w'
        go_simp
        with_reducible rfl
      rotate_left
      · simp only [Act.put, zA_, z0_, z1_, i64_w, i32_w]
        rfl
      refine pure_ (i := 6) (N := some 73) (v := ?_) (a' := ?_) (bs 12 127) rfl rfl (by kernel_rfl) (fun _ _ _ h => h) (Or.inl ⟨by rfl, ?_⟩) ?_ ?_
      rotate_left
      · intro w'
        go_simp
        with_reducible rfl
      rotate_left
      · simp only [Act.put, zA_, z0_, z1_, i64_w, i32_w]
        rfl
      refine pure_ (i := 7) (N := some 74) (v := ?_) (a' := ?_) (bs 12 255) rfl rfl (by kernel_rfl) (fun _ _ _ h => h) (Or.inl ⟨by rfl, ?_⟩) ?_ ?_
      rotate_left
      · intro w'
        go_simp
        with_reducible rfl
      rotate_left
      · simp only [Act.put, zA_, z0_, z1_, i64_w, i32_w]
        rfl
      refine take_ (i := 8) (N := some 75) (v := ?_) (a' := ?_) (bs 12 511) rfl rfl (by kernel_rfl) (fun _ _ _ h => h) (Or.inl ⟨by rfl, ?_⟩) hHeld ?_ ?_
      rotate_left
      · rintro w' ⟨s0, s1, s2⟩
        go_simp
        with_reducible rfl
      rotate_left
      · simp only [Act.put, zA_, z0_, z1_, i64_w, i32_w]
        rfl
      refine pure_ (i := 9) (N := some 76) (v := ?_) (a' := ?_) (bs 12 1023) rfl rfl (by kernel_rfl) (fun _ _ _ h => h) (Or.inl ⟨by rfl, ?_⟩) ?_ ?_
      rotate_left
      · intro w'
        go_simp
        with_reducible rfl
      rotate_left
      · simp only [Act.put, zA_, z0_, z1_, i64_w, i32_w]
        rfl
      refine pure_ (i := 10) (N := some 77) (v := ?_) (a' := ?_) (bs 12 2047) rfl rfl (by kernel_rfl) (fun _ _ _ h => h) (Or.inl ⟨by rfl, ?_⟩) ?_ ?_
      rotate_left
      · intro w'
        go_simp
        with_reducible rfl
      rotate_left
      · simp only [Act.put, zA_, z0_, z1_, i64_w, i32_w]
        rfl
      refine last_ (i := 11) (N := none) (bs 12 4095) rfl rfl (by kernel_rfl) (by decide) (fun K hK => ?_)
      refine skip_seg (by rfl) rfl 23 (.tmp 8) (.tmp 77) rfl g2 0 [.int .u64 (IntKind.u64.wrap (IntKind.u64.wrap (f0 - fp) - 1))] [.int .u64 (IntKind.u64.wrap (IntKind.u64.wrap (f0 - fp) - 1))] (.int .u64 (IntKind.u64.wrap (IntKind.u64.wrap (f0 - fp) - 1))) rfl rfl rfl Bg2 (by kernel_rfl) (by simp) rfl rfl ?_
      intro u5 hn hw
      replace HO := HO.grown Bg2 (by decide) hw; replace HKC := HKC.trans (KC.grown Bg2 hw); replace Bg0 := Bg0.grown hw Ng2_g0.symm; replace Bg3 := Bg3.grown hw Ng3_g2; replace Bg4 := Bg4.grown hw Ng4_g2; replace Bg1 := Bg1.grown hw Ng2_g1.symm; replace HS := HS.grown hw GEg2; replace Bg2 := hn; clear hw; clear hn
      refine hK.out _ _ ?_
      clear hK K
      refine done_ (by kernel_rfl) ?_
      clear hwp hpi
      refine (show (KeepsFrom _ _ _ ∧ BKeep _ _ _ _ ∧ IE w g0 g1 g2 g3 [.int .i64 a0, .int .u64 a1, .int .u64 a2, .int .u64 a3, .int .u64 a4, .int .u64 a5, .int .u64 a6, .bool false, .slice A8 l8.length c8, .slice (some ad9) l9.length c9] (.slice (some ad9) l9.length c9) (uNums [a0] ++ uNums [(l9.length : Int)]) l9 (pre ++ [⟨q, hql⟩]) _) from ⟨HKC.from _, ⟨below_of HS_.out HS HKC.size, fun u_ hu_ => ?_⟩, ⟨_, (IntKind.u64.wrap (IntKind.u64.wrap (f0 - fp) - 1)), bb ++ uNums [gv, (IntKind.u64.wrap (IntKind.u64.wrap (f1 - f0) - 1))], ?_, ?_, ?_, Bg0, Bg1, Bg2, Bg3, HS, ?_⟩⟩)
      · rw [B3_.out.at 0 rfl] at hu_
        rw [← hu_]
        exact Bg3.at 0 rfl
      · rw [← List.append_assoc]
        exact HO
      · have e1 := uNums_len [gv, (IntKind.u64.wrap (IntKind.u64.wrap (f1 - f0) - 1))]
        simp only [List.length_append, List.length_cons, List.length_nil] at e1 ⊢
        omega
      · exact w64_wrap _
      · exact IE_step (hql := hql) hpl HF0.out HF1.out HKI.out (fun hne => by rw [HP1.out, Nat.add_sub_cancel, HFP.out])
  case stop =>
    rintro D c pre W _ _ h _
    exact h.elim
  case done =>
    rintro D xs W hD hS hI hK
    have hDn : w.heap.size ≤ D := Nat.le_trans HS.le hD
    clear Bg0 Bg1 Bg2 Bg3 HO HS
    obtain ⟨v, gv, bb, HO, hbl, _, Bg0, Bg1, Bg2, Bg3, HS, hk⟩ := hI
    have HD : DF W D := ⟨hK⟩
    clear hK
    obtain ⟨rfl, _⟩ := hk _ hS
    have hxl : xs.length = l9.length := by have := congrArg List.length hS; rw [List.length_map, uptoR_len] at this; exact this
    have HL := Aside0.mk (show (uNums [a0] ++ uNums [(l9.length : Int)] ++ uNums (spNums l9 l9.length)).length ≤ 1000 by
      have e1 := uNums_len [a0]; have e2 := uNums_len [(l9.length : Int)]
      simp only [List.length_append, List.length_cons, List.length_nil] at *
      omega)
    clear hxl hS hbl hk hlm
    rw [hT]
    clear hT
    simp only [Exit.inBlock, Exit.then]
    go_wp2_with (first | ((go_at_call 26); (with_reducible refine (fieldsC a0 g0 os _ (Bg0.at 0 rfl) HF.out).mono ?_); rintro e u1 ⟨A1, rfl, hP1, hl⟩; clear Bg2 Bg3; replace HO := HO.below hl; replace HD := HD.below hl; replace Bg0 := Bg0.below hl; replace Bg1 := Bg1.below hl; replace HS := HS.below hl; clear hl))
    go_loopw [84] (fun i wr => ∃ (q : Nat) (v : Value), i = .int .i64 q ∧ q ≤ os.length ∧ OW w wr v ((uNums [a0] ++ uNums [(l9.length : Int)] ++ uNums (spNums l9 l9.length)) ++ uNums ((selL os a1 a2 a3 a4 a5 a6).take q)) ∧ Blk wr g0 27 [.int .i64 a0, .int .u64 a1, .int .u64 a2, .int .u64 a3, .int .u64 a4, .int .u64 a5, .int .u64 a6, .bool false, .slice A8 l8.length c8, .slice (some ad9) l9.length c9] ∧ Blk wr g1 24 [v] ∧ PR wr A1 g0 os ∧ DF wr D ∧ Since w wr) (fun i _ => os.length - (intOf i).toNat)
    case atStart => exact ⟨0, _, rfl, Nat.zero_le _, by rw [List.take_zero]; simpa [uNums] using HO, Bg0, Bg1, hP1, HD, HS⟩
    case round =>
      clear  hP1 Bg0 Bg1 HO HD HS
      obtain ⟨q, v, rfl, hq, HO, Bg0, Bg1, hP1, HD, HS⟩ := hrel
      have hsl : (selL os a1 a2 a3 a4 a5 a6).length = os.length := by simp [selL]
      by_cases hlt : q < os.length
      · obtain ⟨o, hoq⟩ : ∃ o, os[q]? = some o := ⟨_, List.getElem?_eq_getElem hlt⟩
        have hom := List.mem_of_getElem? hoq
        have hmo := hm o hom
        have hne : os ≠ [] := by intro e; simp [e] at hlt
        obtain ⟨b1, hA1, Bb1⟩ := hP1 hne
        have Nb1_g1 : b1 ≠ g1 := blk_ne_of Bb1 Bg1 (by decide)
        have Nb1_g0 : b1 ≠ g0 := blk_ne_of Bb1 Bg0 (by decide)
        have k1 : wr.cell? ⟨b1, q, none⟩ = some (.pointer (some ⟨g0, o, none⟩)) := (Bb1.cell q).trans (by simp [hoq])
        have hco : ([.int .i64 a0, .int .u64 a1, .int .u64 a2, .int .u64 a3, .int .u64 a4, .int .u64 a5, .int .u64 a6, .bool false, .slice A8 l8.length c8, .slice (some ad9) l9.length c9] : List Value)[o]? = some (.int .u64 (selA o a1 a2 a3 a4 a5 a6)) := by rw [← cellsZ_nil, cellsZ_at [] o hmo.1 hmo.2]; simp [zf]
        have htk : (selL os a1 a2 a3 a4 a5 a6).take (q + 1) = (selL os a1 a2 a3 a4 a5 a6).take q ++ [(selA o a1 a2 a3 a4 a5 a6)] := by rw [List.take_add_one]; simp [selL, hoq]
        have hws : W64 (selA o a1 a2 a3 a4 a5 a6) := selA_w' o W1 W2 W3 W4 W5 W6
        have hlen : ((uNums [a0] ++ uNums [(l9.length : Int)] ++ uNums (spNums l9 l9.length)) ++ uNums ((selL os a1 a2 a3 a4 a5 a6).take q)).length ≤ 100000 := by
          have e1 := uNums_len ((selL os a1 a2 a3 a4 a5 a6).take q)
          have e2 := List.length_take_le q (selL os a1 a2 a3 a4 a5 a6)
          have e3 := HL.out
          simp only [List.length_append] at *
          omega
        generalize (selA o a1 a2 a3 a4 a5 a6) = v1 at hco htk hws
        have T1 := Aside0.mk htk; have T2 := Aside0.mk hco; have TA := Aside0.mk hsl
        clear htk hoq hom hmo hne hsl
        go_wp2
        refine start_ (n := 8) (S := fun w' => w'.cell? ⟨g1, 0, none⟩ = some (v) ∧ w'.cell? ⟨g0, o, none⟩ = some (.int .u64 v1)) (ds := [7]) (bs 8 0) (by kernel_rfl) rfl rfl ⟨((Bg1.drew).at 0 rfl), (((Bg0.drew).cell o).trans T2.out)⟩ (fun hHeld => ?_)
        generalize hWd : World.drew wr = u2 at hHeld ⊢
        have hl : Below wr.heap.size wr u2 := (by rw [← hWd]; exact below_drew1 (Below.refl _ _))
        clear hWd
        replace HO := HO.below hl; replace HD := HD.below hl; replace Bg0 := Bg0.below hl; replace Bg1 := Bg1.below hl; replace Bb1 := Bb1.below hl; replace HS := HS.below hl; clear hl
        refine take_ (i := 0) (N := some 88) (v := ?_) (a' := ?_) (bs 8 1) rfl rfl (by kernel_rfl) (fun _ _ _ h => h) (Or.inl ⟨by rfl, ?_⟩) hHeld ?_ ?_
        rotate_left
        · rintro w' ⟨s0, s1⟩
          go_simp
          with_reducible rfl
        rotate_left
        · simp only [Act.put, zA_, z0_, z1_, i64_w, i32_w]
          rfl
        refine pure_ (i := 1) (N := some 89) (v := ?_) (a' := ?_) (bs 8 3) rfl rfl (by kernel_rfl) (fun _ _ _ h => h) (Or.inl ⟨by rfl, ?_⟩) ?_ ?_
        rotate_left
        · intro w'
          go_simp
          with_reducible rfl
        rotate_left
        · simp only [Act.put, zA_, z0_, z1_, i64_w, i32_w]
          rfl
        refine pure_ (i := 2) (N := some 90) (v := ?_) (a' := ?_) (bs 8 7) rfl rfl (by kernel_rfl) (fun _ _ _ h => h) (Or.inl ⟨by rfl, ?_⟩) ?_ ?_
        rotate_left
        · intro w'
          go_simp
          with_reducible rfl
        rotate_left
        · simp only [Act.put, zA_, z0_, z1_, i64_w, i32_w]
          rfl
        refine take_ (i := 3) (N := some 91) (v := ?_) (a' := ?_) (bs 8 15) rfl rfl (by kernel_rfl) (fun _ _ _ h => h) (Or.inl ⟨by rfl, ?_⟩) hHeld ?_ ?_
        rotate_left
        · rintro w' ⟨s0, s1⟩
          go_simp
          with_reducible rfl
        rotate_left
        · simp only [Act.put, zA_, z0_, z1_, i64_w, i32_w]
          rfl
        refine chain3_ (i1 := 4) (i2 := 5) (i3 := 6) (N1 := 92) (N2 := 93) (N3 := 94) (bs 8 31) (bs 8 63) (bs 8 127) rfl rfl rfl rfl rfl rfl rfl rfl rfl (by kernel_rfl) (by kernel_rfl) (by kernel_rfl) (by decide) (by decide) (by decide) [v1] (uNums [v1]) ((uNums [a0] ++ uNums [(l9.length : Int)] ++ uNums (spNums l9 l9.length)) ++ uNums ((selL os a1 a2 a3 a4 a5 a6).take q)) (v) (.tmp 88) 24 Try.func24 (by kernel_rfl) rfl ?r1 rfl rfl (fun _ => rfl) (fun _ _ => rfl) (fun _ _ => rfl) (by simp) ?hlen (numsC (l := [v1]) (by simpa using hws) (by simp)) HO HS (fun w' hk => ⟨((hk.blk Bg1 (by decide) (by simp)).at 0 rfl), (((hk.blk Bg0 (by decide) (by simp)).cell o).trans T2.out)⟩) ?_
        case r1 => first | (go_simp; done) | (go_simp; rfl)
        case hlen => (have := uNums_len [v1]; simp only [List.length_cons, List.length_nil] at this; omega)
        intro x92 x93 v94 u3 HO_ hk HS_ hHeld
        replace Bg0 := hk.blk Bg0 (by decide) (by simp)
        replace Bg1 := hk.blk Bg1 (by decide) (by simp)
        replace Bb1 := hk.blk Bb1 (by decide) (by simp)
        replace HD := HD.ko0 hk
        clear HO hk HS; have HO := HO_; have HS := HS_; clear HO_ HS_
        refine norm_ (a' := ?_) ?_ ?_
        rotate_left
        · simp only [Act.put, zA_, z0_, z1_, i64_w, i32_w]
          rfl
        refine store_ (i4 := 7) (bs 8 255) rfl rfl rfl (by kernel_rfl) (by decide) (.tmp 6) (.tmp 94) g1 (v) (v94) (((uNums [a0] ++ uNums [(l9.length : Int)] ++ uNums (spNums l9 l9.length)) ++ uNums ((selL os a1 a2 a3 a4 a5 a6).take q)) ++ uNums [v1]) rfl rfl rfl HO HS Bg1 GEg1 ?_
        intro u4 HO_ hB_ hk HS_
        replace HD := HD.ko Bg1 hk
        clear Bg1
        replace Bg0 := hk.blk Bg0 (by decide) (by simpa using Ng1_g0.symm)
        replace Bb1 := hk.blk Bb1 (by decide) (by simpa using Nb1_g1)
        clear HO hk HS; have HO := HO_; have HS := HS_; clear HO_ HS_
        have Bg1 := hB_; clear hB_
        refine done_ (by kernel_rfl) ?_
        go_wp2
        go_roundw
        case rel => exact ⟨q + 1, _, by go_num, by omega, by rw [T1.out, uNums_app, ← List.append_assoc]; exact HO, Bg0, Bg1, fun _ => ⟨b1, hA1, Bb1⟩, HD, HS⟩
        case measure => simp [intOf]; omega
      · obtain rfl : q = os.length := by omega
        rw [← hsl, List.take_length] at HO
        clear hsl hP1 hm
        have kg0_0 := Bg0.at 0 rfl
        have kg1_0 := Bg1.at 0 rfl
        go_wp2
        (try simp only [Exit.inBlock, Exit.then])
        exact leave_mark HD (results_tmp2 rfl ..) ⟨_, rfl, HO.put HD, (HS.put hDn).out⟩
theorem frame_Encode.wayN (k : Nat) (a0 a1 a2 a3 a4 a5 a6 : Int) (a7 : Bool) (A8 : Option Addr) (c8 : Nat) (l8 : List Int) (A9 : Option Addr) (c9 : Nat) (l9 : List S47) (w : World) (r : Int) (hc : frame_Check.f k a0 a1 a2 a3 a4 a5 a6 a7 l8 l9 = some r) (hr : (r != 0) = true) (hr8 : Kd.C (Kd.int .u8) w A8 l8.length l8) (hc8 : l8.length ≤ c8) (hr9 : Kd.C k47 w A9 l9.length l9) (hc9 : l9.length ≤ c9) :
    Calls Try.prog 13 #[.agg #[.int .i64 a0, .int .u64 a1, .int .u64 a2, .int .u64 a3, .int .u64 a4, .int .u64 a5, .int .u64 a6, .bool a7, .slice A8 l8.length c8, .slice A9 l9.length c9]] w fun e w' => e = .returned (.tuple #[.slice none 0 0, .int .i64 r]) ∧ Below w.heap.size w w' := by
  have hu27 := Try.underlying27
  have HS := Since.refl w
  have HR8 := Aside0.mk hr8; have HR9 := Aside0.mk hr9; have HC := Aside0.mk hc
  clear hr8 hr9 hc
  go_enter Try.func13, Try.ntmps13
  go_wp2_with (first | (refine seg_new rfl (N := 1) rfl [.int .i64 a0, .int .u64 a1, .int .u64 a2, .int .u64 a3, .int .u64 a4, .int .u64 a5, .int .u64 a6, .bool a7, .slice A8 l8.length c8, .slice A9 l9.length c9] 27 ?hr ?_; (case hr => rfl); intro g0 hg w1 hn hl; have GEg0 := ge_new HS hg; clear hg; replace HS := HS.below hl; have Bg0 := hn; clear hl hn) | (refine seg_load rfl (N := 15) rfl 27 (.tmp 1) rfl g0 0 [.int .i64 a0, .int .u64 a1, .int .u64 a2, .int .u64 a3, .int .u64 a4, .int .u64 a5, .int .u64 a6, .bool a7, .slice A8 l8.length c8, .slice A9 l9.length c9] rfl Bg0 rfl Try.underlying27 rfl (by kernel_rfl) ?_) | ((go_at_call 15); (with_reducible refine (frame_Check.calls k a0 a1 a2 a3 a4 a5 a6 a7 A8 c8 l8 A9 c9 l9 r _ (Kd.C_below HR8.out HS.out) hc8 (Kd.C_below HR9.out HS.out) hc9 HC.out).mono ?_); rintro e w2 ⟨rfl, hl⟩; replace Bg0 := Bg0.below hl; replace HS := HS.below hl; clear hl))
  all_goals (go_ret2; exact ⟨rfl, HS.out⟩)
def uEnc (a0 a1 a2 a3 a4 a5 a6 : Int) (a7 : Bool) (l8 : List Int) (l9 : List S47) : List Int :=
  uNums [uKind a0 a7] ++ (if l9.length = 0 then [] else uNums [(l9.length : Int)] ++ uNums (spNums l9 l9.length)) ++ uNums (selL ((fOffs a0).getD []) a1 a2 a3 a4 a5 a6) ++ (if a0 = 14 then uNums [(l8.length : Int)] ++ l8 else [])
def frame_Encode.f (k : Nat) (a0 a1 a2 a3 a4 a5 a6 : Int) (a7 : Bool) (l8 : List Int) (l9 : List S47) : Option (List Int × Int) :=
  (frame_Check.f k a0 a1 a2 a3 a4 a5 a6 a7 l8 l9).bind fun e => if e = 0 then (if l9.length ≤ 32 then some (uEnc a0 a1 a2 a3 a4 a5 a6 a7 l8 l9, 0) else none) else some ([], e)
theorem frame_Encode.mono : ∀ a0 a1 a2 a3 a4 a5 a6 a7 l8 l9 k, LeO (frame_Encode.f k a0 a1 a2 a3 a4 a5 a6 a7 l8 l9) (frame_Encode.f (k + 1) a0 a1 a2 a3 a4 a5 a6 a7 l8 l9) := by
  intro a0 a1 a2 a3 a4 a5 a6 a7 l8 l9 k
  unfold frame_Encode.f
  exact LeO.bind (frame_Check.mono _ _ _ _ _ _ _ _ _ _ _) (fun _ => LeO.refl _)
theorem fOffs_range {a0 : Int} {os : List Nat} (h : fOffs a0 = some os) : 0 ≤ a0 ∧ a0 ≤ 30 := by
  unfold fOffs at h
  repeat (first | (cases h; done) | (split at h; (· omega)))
theorem tail_zero {a0 a2 : Int} {a7 : Bool} {n : Nat} (h : uTail a0 a2 a7 n = 0) : n ≤ 1200 ∧ (a0 = 14 ∨ a7 = false ∧ n = 0) := by
  unfold uTail at h
  split at h
  · cases h
  · rename_i h1
    split at h
    · cases h
    · rename_i h2
      refine ⟨by omega, ?_⟩
      by_cases h14 : a0 = 14
      · exact .inl h14
      · refine .inr ⟨?_, ?_⟩
        · cases a7
          · rfl
          · exact absurd ⟨h14, .inl rfl⟩ h1
        · have : ¬ 0 < n := fun hn => h1 ⟨h14, .inr hn⟩
          omega
theorem chk_zero {k : Nat} {a0 a1 a2 a3 a4 a5 a6 : Int} {a7 : Bool} {l8 : List Int} {l9 : List S47} (h : frame_Check.f k a0 a1 a2 a3 a4 a5 a6 a7 l8 l9 = some 0) :
    ∃ os, fOffs a0 = some os ∧ W64 a1 ∧ W64 a2 ∧ W64 a3 ∧ W64 a4 ∧ W64 a5 ∧ W64 a6 ∧ l8.length ≤ 1200 ∧ (a0 = 14 ∨ a7 = false ∧ l8.length = 0) ∧ (if a0 = 2 ∨ a0 = 3 then frame_spans.f k l9 = some true else l9.length = 0) := by
  unfold frame_Check.f at h
  split at h
  · rename_i hw
    obtain ⟨W1, W2, W3, W4, W5, W6, _, _⟩ := hw
    split at h
    · cases h
    · rename_i os ho
      split at h
      · cases h
      · split at h
        · rename_i hak
          obtain ⟨s, hs, h⟩ := Option.bind_eq_some_iff.1 h
          cases s with
          | false => cases h
          | true =>
            have ht : uTail a0 a2 a7 l8.length = 0 := by simpa using h
            obtain ⟨t1, t2⟩ := tail_zero ht
            exact ⟨os, ho, W1, W2, W3, W4, W5, W6, t1, t2, by rw [if_pos hak]; exact hs⟩
        · rename_i hak
          split at h
          · cases h
          · rename_i hn
            have ht : uTail a0 a2 a7 l8.length = 0 := by simpa using h
            obtain ⟨t1, t2⟩ := tail_zero ht
            exact ⟨os, ho, W1, W2, W3, W4, W5, W6, t1, t2, by rw [if_neg hak]; omega⟩
  · cases h
theorem frame_Encode.calls (k : Nat) (a0 a1 a2 a3 a4 a5 a6 : Int) (a7 : Bool) (A8 : Option Addr) (c8 : Nat) (l8 : List Int) (A9 : Option Addr) (c9 : Nat) (l9 : List S47) (r1 : List Int) (r2 : Int) (w : World) (hr8 : Kd.C (Kd.int .u8) w A8 l8.length l8) (hc8 : l8.length ≤ c8) (hr9 : Kd.C k47 w A9 l9.length l9) (hc9 : l9.length ≤ c9) (h : frame_Encode.f k a0 a1 a2 a3 a4 a5 a6 a7 l8 l9 = some (r1, r2)) :
    Calls Try.prog 13 #[.agg #[.int .i64 a0, .int .u64 a1, .int .u64 a2, .int .u64 a3, .int .u64 a4, .int .u64 a5, .int .u64 a6, .bool a7, .slice A8 l8.length c8, .slice A9 l9.length c9]] w fun e w' => ∃ v0_ : Value, e = .returned (.tuple #[v0_, .int .i64 r2]) ∧ Kd.R (Kd.int .u8) 5 w' w.heap.size (fun _ => True) v0_ r1 ∧ Below w.heap.size w w' := by
  obtain ⟨e, hc, h⟩ := Option.bind_eq_some_iff.1 h
  by_cases he : e = 0
  · rw [if_pos he] at h
    subst he
    split at h
    case isFalse => cases h
    rename_i hn32
    simp only [Option.some.injEq, Prod.mk.injEq] at h
    obtain ⟨rfl, rfl⟩ := h
    obtain ⟨os, ho, W1, W2, W3, W4, W5, W6, h8, h14, hsp⟩ := chk_zero hc
    obtain ⟨hk0, hk1⟩ := fOffs_range ho
    unfold uEnc uKind
    rw [ho]
    simp only [Option.getD_some]
    by_cases hn9 : l9.length = 0
    · rw [if_pos hn9, List.append_nil]
      by_cases e14 : a0 = 14
      · have b14 : (a0 == 14) = true := by simp [e14]
        rw [if_pos e14]
        cases a7 with
        | false =>
          refine (frame_Encode.wayA01 k a0 a1 a2 a3 a4 a5 a6 A8 c8 l8 A9 c9 l9 w hc os ho W1 W2 W3 W4 W5 W6 h8 hk0 hk1 hr8 hc8 hr9 hc9 hn9 b14).mono ?_
          rintro e w' ⟨v, rfl, hO, hb⟩
          exact ⟨v, rfl, by simpa [List.append_assoc] using hO.out, hb⟩
        | true =>
          refine (frame_Encode.wayA11 k a0 a1 a2 a3 a4 a5 a6 A8 c8 l8 A9 c9 l9 w hc os ho W1 W2 W3 W4 W5 W6 h8 hk0 hk1 hr8 hc8 hr9 hc9 hn9 b14).mono ?_
          rintro e w' ⟨v, rfl, hO, hb⟩
          exact ⟨v, rfl, by simpa [List.append_assoc] using hO.out, hb⟩
      · have b14 : (a0 == 14) = false := by simp [e14]
        obtain ⟨rfl, _⟩ := h14.resolve_left e14
        rw [if_neg e14, List.append_nil]
        refine (frame_Encode.wayA00 k a0 a1 a2 a3 a4 a5 a6 A8 c8 l8 A9 c9 l9 w hc os ho W1 W2 W3 W4 W5 W6 h8 hk0 hk1 hr8 hc8 hr9 hc9 hn9 b14).mono ?_
        rintro e w' ⟨v, rfl, hO, hb⟩
        exact ⟨v, rfl, by simpa using hO.out, hb⟩
    · rw [if_neg hn9]
      have hak : a0 = 2 ∨ a0 = 3 := by
        by_cases hak : a0 = 2 ∨ a0 = 3
        · exact hak
        · rw [if_neg hak] at hsp; exact absurd hsp hn9
      have e14 : a0 ≠ 14 := by omega
      have b14 : (a0 == 14) = false := by simp [e14]
      obtain ⟨rfl, _⟩ := h14.resolve_left e14
      rw [if_neg e14, List.append_nil]
      refine (frame_Encode.wayB k a0 a1 a2 a3 a4 a5 a6 A8 c8 l8 A9 c9 l9 w hc os ho W1 W2 W3 W4 W5 W6 h8 hk0 hk1 hr8 hc8 hr9 hc9 (by omega) hn32 b14).mono ?_
      rintro e w' ⟨v, rfl, hO, hb⟩
      exact ⟨v, rfl, by simpa [List.append_assoc] using hO.out, hb⟩
  · rw [if_neg he] at h
    simp only [Option.some.injEq, Prod.mk.injEq] at h
    obtain ⟨rfl, rfl⟩ := h
    refine (frame_Encode.wayN k a0 a1 a2 a3 a4 a5 a6 a7 A8 c8 l8 A9 c9 l9 w e hc (by simpa using he) hr8 hc8 hr9 hc9).mono ?_
    rintro e w' ⟨rfl, hb⟩
    exact ⟨_, rfl, Kd.R_nil _ _ _ _ _, hb⟩
end Go.Proofs.Ytphakdfholkbdaa.PFra
