/- Whether any frame may be, and its bytes, are what the document says: for every frame, with no condition. -/
import Derived.Test.YtphakdfholkbdaaKH
import Derived.Test.YtphakdfholkbdaaKG
import Derived.Test.YtphakdfholkbdaaKA
import Derived.Test.YtphakdfholkbdaaKW
namespace Go.Proofs.Ytphakdfholkbdaa.Pure
set_option linter.unusedVariables false
set_option linter.unusedSimpArgs false
set_option maxHeartbeats 1000000
open Go.RowKit Go.Proofs.Ytphakdfholkbdaa Go.Proofs.Ytphakdfholkbdaa.PFra Go.Proofs.YtphakdfholkbdaaW.PrintWords Go.Proofs.YtphakdfholkbdaaW.PrintLast
theorem FrameEncodes (a0 a1 a2 a3 a4 a5 a6 : Int) (a7 : Bool) (l8 : List Int) (l9 : List S47) (w0 : (Lit.int .i64 a0).wf = true) (w1 : (Lit.int .u64 a1).wf = true) (w2 : (Lit.int .u64 a2).wf = true) (w3 : (Lit.int .u64 a3).wf = true) (w4 : (Lit.int .u64 a4).wf = true) (w5 : (Lit.int .u64 a5).wf = true) (w6 : (Lit.int .u64 a6).wf = true) (h8 : ∀ y ∈ l8, (Lit.int .u8 y).wf = true) (h9 : ∀ y ∈ l9, WfS47 y) : ∃ k, wigwaglaw05_FrameEncodes.f k a0 a1 a2 a3 a4 a5 a6 a7 l8 l9 = some true := by
  have W1 := wf64 w1; have W2 := wf64 w2; have W3 := wf64 w3; have W4 := wf64 w4; have W5 := wf64 w5; have W6 := wf64 w6
  have h0 : ∀ x ∈ l9, 0 ≤ x.f0 := fun x hx => (wf64 (h9 x hx).1).1
  obtain ⟨k, hk⟩ : ∃ k, k = 500 := ⟨_, rfl⟩
  refine ⟨k, ?_⟩
  unfold wigwaglaw05_FrameEncodes.f wigwaglaw05_Few.f
  rw [awake_ok (by omega), Option.bind_some]
  by_cases hs : (l9.length : Int) ≤ 100
  · rw [if_pos hs, Option.bind_some]
    by_cases hd : (l8.length : Int) ≤ 2000
    · rw [if_pos (decide_eq_true hd)]
      have b8 : l8.length < 1000000 := by omega
      have b9 : l9.length < 1000000 := by omega
      have hC := chk_eq (K := k) (a0 := a0) (a7 := a7) (l8 := l8) (l9 := l9) W1 W2 W3 W4 W5 W6 b8 b9 (by omega)
      have hR := rchk_eq (K := k) (a0 := a0) (a7 := a7) (l8 := l8) (l9 := l9) W1 W2 W3 W4 W5 W6 b8 b9 (by omega)
      by_cases hc : uChk a0 a1 a2 a3 a4 a5 a6 a7 l8.length l9 = 0
      · obtain ⟨os, ho⟩ := chk_fOffs hc
        have hw := gA_nn W1 W2 W3 W4 W5 W6
        have hb := nums_bound ho hc h0 hw
        have hL := laid_eq (K := k) ho hc h0 (by omega)
        have hlen : (numsOf a0 a7 os (gA a1 a2 a3 a4 a5 a6) l9 l8.length).length ≤ 300 := by
          have hol := (fOffs_mem ho).2
          unfold numsOf
          simp only [List.length_append, List.length_map, List.length_singleton]
          have h3 : (if l9.length = 0 then ([] : List Int) else (l9.length : Int) :: nOver l9 []).length ≤ 210 := by
            split
            · simp
            · simp only [List.length_cons, nOver_len]; omega
          have h4 : (if a0 = 14 then [(l8.length : Int)] else []).length ≤ 1 := by split <;> simp
          omega
        have hE := encode_ok (k := k) W1 W2 W3 W4 W5 W6 b8 b9 (by omega) hc
        have hRE : wigwagref05_Encode.f k a0 a1 a2 a3 a4 a5 a6 a7 l8 l9 = some (uEnc a0 a1 a2 a3 a4 a5 a6 a7 l8 l9, 0) := by
          have hN : wigwagref05_numbers.f k (numsOf a0 a7 os (gA a1 a2 a3 a4 a5 a6) l9 l8.length) = some (uNums (numsOf a0 a7 os (gA a1 a2 a3 a4 a5 a6) l9 l8.length)) :=
            rnum_eq hb (by omega) (by omega)
          have hul := uNums_len (numsOf a0 a7 os (gA a1 a2 a3 a4 a5 a6) l9 l8.length)
          unfold wigwagref05_Encode.f
          rw [hR, hc, Option.bind_some, if_pos rfl, hL, Option.bind_some, hN, Option.bind_some, if_pos (by omega), enc_eq ho hc h0]
        rw [hE, hRE, hC, hR, hc]
        simp
      · have hE := encode_no (k := k) W1 W2 W3 W4 W5 W6 b8 b9 (by omega) hc
        have hRE : wigwagref05_Encode.f k a0 a1 a2 a3 a4 a5 a6 a7 l8 l9 = some ([], 50) := by
          unfold wigwagref05_Encode.f
          rw [hR, Option.bind_some, if_neg hc]
        rw [hE, hRE, hC, hR]
        simp
    · rw [if_neg (by simpa using hd)]
  · rw [if_neg hs, Option.bind_some, if_neg (by decide)]
end Go.Proofs.Ytphakdfholkbdaa.Pure
