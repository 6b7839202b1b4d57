/- What is parsed may be, is encoded in no more bytes, and is none when it is cut: for every row of bytes, with no condition. -/
import Derived.Test.YtphakdfholkbdaaFrQ
import Derived.Test.YtphakdfholkbdaaPFrax37
namespace Go.Proofs.Ytphakdfholkbdaa.Pure
set_option linter.unusedVariables false
set_option linter.unusedSimpArgs false
open Go.RowKit Go.Proofs.Ytphakdfholkbdaa Go.Proofs.Ytphakdfholkbdaa.PFra Go.Proofs.YtphakdfholkbdaaW.PrintWords Go.Proofs.YtphakdfholkbdaaW.PrintLast
theorem fine_cut {l : List Int} {K : Int} {fin : Bool} {s : List S47} {f : Nat → Int} {d r : List Int} (hb : bytesOk l = true) (h : rFr l = some (K, f, fin, d, s, r)) (hl : l.length ≤ 2000) (m : Int) (h0 : 0 ≤ m) (hm : m < (l.length : Int) - r.length) : frame_Parse.f (l.take m.toNat) = some (0, 0, 0, 0, 0, 0, 0, false, [], [], 0, 50) := by
  have hb2 : bytesOk (l.take m.toNat) = true := List.all_eq_true.2 fun x hx => List.all_eq_true.1 hb x (List.mem_of_mem_take hx)
  rw [parse_f hb2 (by rw [List.length_take]; omega)]
  unfold uParse
  rw [cut_none hb h m.toNat (by omega)]
theorem FrameFine : wigwaglaw05_FrameFine.Pure := by
  intro l0 a1 hm1 hm2 hwf hw1
  have hb := bytes_wf hwf
  have hw1 : -9223372036854775808 ≤ a1 ∧ a1 ≤ 9223372036854775807 := by
    have e1 : IntKind.i64.min = -9223372036854775808 := rfl
    have e2 : IntKind.i64.max = 9223372036854775807 := rfl
    simp [Lit.wf, e1, e2] at hw1
    omega
  obtain ⟨k, hk⟩ : ∃ k, k = 60 := ⟨_, rfl⟩
  refine ⟨k, ?_⟩
  unfold wigwaglaw05_FrameFine.f
  rw [awake_ok (by omega), Option.bind_some]
  by_cases hl : (l0.length : Int) > 2000
  · rw [if_pos hl]
  · rw [if_neg hl, parse_f hb (by omega), Option.bind_some]
    cases hR : rFr l0 with
    | none =>
      have e : uParse l0 = (0, 0, 0, 0, 0, 0, 0, false, [], [], 0, 50) := by unfold uParse; rw [hR]
      rw [e]
      rfl
    | some q =>
      obtain ⟨K, f, fin, d, s, r⟩ := q
      have e : uParse l0 = (K, f 1, f 2, f 3, f 4, f 5, f 6, fin, d, s, (l0.length : Int) - r.length, 0) := by unfold uParse; rw [hR]
      rw [e]
      simp only
      obtain ⟨_, _, hlt⟩ := rFr_suffix hb hR
      obtain ⟨os, p, ho, ep, hp, hc, _, _⟩ := frame_reads hb hR
      have hd : d.length < 1000000 := by have := congrArg List.length ep; simp only [List.length_append] at this; omega
      obtain ⟨_, hsp, hno, _⟩ := chk_parts ho hc
      have hs : s.length ≤ 32 := by
        by_cases hk : K = 2 ∨ K = 3
        · have hok := hsp hk
          unfold spOk at hok
          simp only [Bool.and_eq_true, decide_eq_true_eq] at hok
          exact hok.1.2
        · rw [hno hk]; simp
      have w := fun j a b => wq (frame_w hb hR j a b)
      have hC := chk_eq (K := k) (a0 := K) (a7 := fin) (l8 := d) (l9 := s) (w 1 (by omega) (by omega)) (w 2 (by omega) (by omega)) (w 3 (by omega) (by omega)) (w 4 (by omega) (by omega)) (w 5 (by omega) (by omega)) (w 6 (by omega) (by omega)) hd (by omega) (by omega)
      have hE := encode_ok (k := k) (w 1 (by omega) (by omega)) (w 2 (by omega) (by omega)) (w 3 (by omega) (by omega)) (w 4 (by omega) (by omega)) (w 5 (by omega) (by omega)) (w 6 (by omega) (by omega)) hd (by omega) (by omega) hc
      have hle := enc_le hb hR
      have hcut := fun m h0 h1 => fine_cut hb hR (by omega) m h0 h1
      rw [hC, hE, hc]
      generalize uEnc K (f 1) (f 2) (f 3) (f 4) (f 5) (f 6) fin d s = x at *
      clear hE hC hc hp ho w e hsp hno ep hd hb hwf hm1 hm2
      obtain ⟨n, hn⟩ : ∃ n : Int, n = (l0.length : Int) - r.length := ⟨_, rfl⟩
      rw [← hn] at hcut ⊢
      have hn0 : 0 < n := by omega
      have hx : (x.length : Int) ≤ n := by omega
      have hnl : n ≤ (l0.length : Int) := by omega
      rw [if_pos trivial, if_neg (by omega), if_neg (by omega), Option.bind_some]
      have hmod : ∀ c : Int, 0 ≤ c → 0 ≤ Int.tmod c n ∧ Int.tmod c n < n := fun c h => by
        rw [Int.tmod_eq_emod_of_nonneg h]
        exact ⟨Int.emod_nonneg _ (by omega), Int.emod_lt_of_pos _ hn0⟩
      by_cases ha : a1 < 0
      · have hc0 : 0 ≤ wrap64 (-(wrap64 (a1 + 1))) := by unfold wrap64; omega
        obtain ⟨m0, m1⟩ := hmod _ hc0
        rw [if_pos ha, if_neg (by omega), if_pos m0, if_pos (by omega), hcut _ m0 m1]
        simp only [Option.bind_some]
        rw [if_pos trivial, if_pos trivial, if_pos hx]
        rfl
      · obtain ⟨m0, m1⟩ := hmod a1 (by omega)
        rw [if_neg ha, if_neg (by omega), if_pos m0, if_pos (by omega), hcut _ m0 m1]
        simp only [Option.bind_some]
        rw [if_pos trivial, if_pos trivial, if_pos hx]
        rfl
end Go.Proofs.Ytphakdfholkbdaa.Pure
