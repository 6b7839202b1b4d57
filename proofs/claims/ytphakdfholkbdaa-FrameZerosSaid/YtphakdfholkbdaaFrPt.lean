import Derived.Outline
import Derived.Handy
import Derived.Recover
import Derived.WalkSmall
import Derived.Laws.Externs
import Derived.Laws.CopyOwn
import Derived.Lib.AppendZerosOnto
import Derived.Lib.Overlaps
import Derived.Deep.RegionLaw
import Derived.Test.YtphakdfholkbdaaPFrax0
import Derived.Test.YtphakdfholkbdaaNum
import Derived.Test.YtphakdfholkbdaaSeg
import Derived.Test.YtphakdfholkbdaaFraB
import Derived.Test.YtphakdfholkbdaaFrPr
namespace Go.Proofs.Ytphakdfholkbdaa
open Go.Proofs.Ytphakdfholkbdaa.PFra Go.RowKit Go.Proofs.YtphakdfholkbdaaW.PrintWords Go.Proofs.YtphakdfholkbdaaW.PrintLast Go.Proofs.YtphakdfholkbdaaW.PrintMore
set_option maxRecDepth 100000
set_option maxHeartbeats 4000000
set_option linter.unusedVariables false
set_option linter.unusedSimpArgs false
theorem fr_kind {n : Int} (h0 : 0 ≤ n) (h : n ≤ 30) : IntKind.i64.wrap n = n := by rw [IntKind.wrap_i64]; omega
theorem frame_calls (w0 w : World) (sb rb : Nat) (l : List Int) (R : Option FrV) (hR : rFr l = R) (B0 : Blk w rb 75 [.pointer (some ⟨sb, 0, none⟩), .int .i64 0, .int .u64 0, .int .u64 0, .int .u64 0, .int .u64 0, .int .u64 0, .int .u64 0, .bool false, .slice none 0 0, .slice none 0 0]) (S0 : Src w0 w sb l) (H0 : Since w0 w) (hb0 : bytesOk l = true) (hrb : w0.heap.size ≤ rb) (hl : l.length < 1000000) :
    Calls Try.prog 34 #[.pointer (some ⟨rb, 0, none⟩)] w fun e w' => Kept2 sb rb w w' ∧ FrP w0 sb rb R e w' := by
  unfold rFr at hR
  cases hN : uNum l with
  | none => exact fr_none w0 w sb rb l B0 S0 H0 hb0 hrb hl R (by rw [← hR, hN]; rfl) hN
  | some r =>
    obtain ⟨n, l1⟩ := r
    obtain ⟨hn, hb1, -, -, -, -, -⟩ := uNum_some hb0 hN
    rw [hN, Option.bind_some] at hR
    simp only at hR
    by_cases h30 : n ≤ 30
    · rw [if_pos h30] at hR
      have hd : decide (n ≤ 30) = true := decide_eq_true h30
      by_cases h15 : n = 15
      · subst h15
        rw [if_pos rfl] at hR
        exact fr_15 w0 w sb rb l B0 S0 H0 hb0 hrb hl R l1 hN [1, 2] rfl ⟨hR⟩
      · rw [if_neg h15] at hR
        have e15 : (n == 15) = false := beq_eq_false_iff_ne.mpr h15
        unfold rKind at hR
        cases ho : fOffs n with
        | none =>
          rw [ho] at hR
          exact fr_no w0 w sb rb l B0 S0 H0 hb0 hrb hl R hR.symm n l1 hN hd e15 (fr_kind hn.1 h30) ho
        | some os =>
          rw [ho] at hR
          simp only at hR
          by_cases hk : n = 2 ∨ n = 3
          · rw [if_pos hk] at hR
            cases hsp : rSp l1 with
            | none =>
              have hR0 : R = none := by rw [← hR, hsp]; rfl
              rcases hk with rfl | rfl
              · exact fr_2_no w0 w sb rb l B0 S0 H0 hb0 hrb hl R l1 hN os ho hR0 hsp
              · exact fr_3_no w0 w sb rb l B0 S0 H0 hb0 hrb hl R l1 hN os ho hR0 hsp
            | some r =>
              obtain ⟨s, l2⟩ := r
              rw [hsp, Option.bind_some] at hR
              rcases hk with rfl | rfl
              · exact fr_2 w0 w sb rb l B0 S0 H0 hb0 hrb hl R l1 hN os ho s l2 hsp ⟨hR⟩
              · exact fr_3 w0 w sb rb l B0 S0 H0 hb0 hrb hl R l1 hN os ho s l2 hsp ⟨hR⟩
          · rw [if_neg hk] at hR
            exact fr_any w0 w sb rb l B0 S0 H0 hb0 hrb hl R n l1 hN hd e15 (fr_kind hn.1 h30) os ho (beq_eq_false_iff_ne.mpr fun h => hk (.inl h)) (beq_eq_false_iff_ne.mpr fun h => hk (.inr h)) ⟨hR⟩
    · rw [if_neg h30] at hR
      exact fr_big w0 w sb rb l B0 S0 H0 hb0 hrb hl R hR.symm n l1 hN (decide_eq_false h30)

end Go.Proofs.Ytphakdfholkbdaa
