import Derived.Outline
import Derived.Handy
import Derived.Recover
import Derived.WalkSmall
import Derived.Laws.Externs
import Derived.Laws.CopyOwn
import Derived.Lib.AppendZerosOnto
import Derived.Lib.Overlaps
import Derived.Deep.RegionLaw
import Derived.Test.YtphakdfholkbdaaPFrax0
import Derived.Test.YtphakdfholkbdaaNum
import Derived.Test.YtphakdfholkbdaaSeg
import Derived.Test.YtphakdfholkbdaaFraB
import Derived.Test.YtphakdfholkbdaaFrPl
import Derived.Test.YtphakdfholkbdaaPFrax5
namespace Go.Proofs.Ytphakdfholkbdaa
open Go.Proofs.Ytphakdfholkbdaa.PFra Go.RowKit Go.Proofs.YtphakdfholkbdaaW.PrintWords Go.Proofs.YtphakdfholkbdaaW.PrintLast Go.Proofs.YtphakdfholkbdaaW.PrintMore
set_option maxRecDepth 100000
set_option maxHeartbeats 4000000
set_option linter.unusedVariables false
set_option linter.unusedSimpArgs false
/-- Spans in order, each behind the one before it. -/
def okS : Option Int → List S47 → Bool
  | _, [] => true
  | p, x :: l => decide (x.f0 < x.f1) && decide (x.f1 ≤ 4611686018427387904) && (match p with | none => true | some q => decide (q < x.f0)) && okS (some x.f1) l
def spOk (l : List S47) : Bool := decide (1 ≤ l.length) && decide (l.length ≤ 32) && okS none l
def prevS (l : List S47) (i : Nat) : Option Int := if i = 0 then none else some (l.getD (i - 1) z47).f1
theorem rdT {l : List S47} {i : Nat} : rd_T47 l (i : Int) = l.getD i z47 := by simp [rd_T47]
theorem prevS_succ (l : List S47) (i : Nat) : prevS l (i + 1) = some (l.getD i z47).f1 := by simp [prevS]
theorem okS_step {l : List S47} {i : Nat} (h : i < l.length) : okS (prevS l i) (l.drop i) = (decide ((l.getD i z47).f0 < (l.getD i z47).f1) && decide ((l.getD i z47).f1 ≤ 4611686018427387904) && (if i = 0 then true else decide ((l.getD (i - 1) z47).f1 < (l.getD i z47).f0)) && okS (prevS l (i + 1)) (l.drop (i + 1))) := by
  rw [prevS_succ, List.drop_eq_getElem_cons h, okS.eq_def]
  simp only
  have e : l[i] = l.getD i z47 := by simp [List.getD, List.getElem?_eq_getElem h]
  rw [e]
  congr 2
  unfold prevS
  split <;> simp_all
theorem sp_loop (l : List S47) (hl : l.length < 1000000) : ∀ d K i : Nat, i + d = l.length → d < K → frame_spans.l0 K l l (l.length : Int) (i : Int) = some (if okS (prevS l i) (l.drop i) = true then decide (1 ≤ l.length) && decide (l.length ≤ 32) else false) := by
  intro d
  induction d with
  | zero =>
    intro K i hi hk
    obtain ⟨k, rfl⟩ : ∃ k, K = k + 1 := ⟨K - 1, by omega⟩
    rw [frame_spans.l0, if_neg (by omega), List.drop_of_length_le (by omega)]
    simp only [okS, if_true]
    by_cases h1 : (l.length : Int) ≥ 1
    · rw [if_pos h1, decide_eq_true (by omega : 1 ≤ l.length), Bool.true_and]
      congr 1
      by_cases h2 : l.length ≤ 32
      · rw [decide_eq_true h2, decide_eq_true (by omega)]
      · rw [decide_eq_false h2, decide_eq_false (by omega)]
    · rw [if_neg h1, decide_eq_false (by omega : ¬ 1 ≤ l.length), Bool.false_and]
  | succ d ih =>
    intro K i hi hk
    obtain ⟨k, rfl⟩ : ∃ k, K = k + 1 := ⟨K - 1, by omega⟩
    have hlt : i < l.length := by omega
    have hn : wrap64 ((i : Int) + 1) = ((i + 1 : Nat) : Int) := by unfold wrap64; omega
    have ih' := ih k (i + 1) (by omega) (by omega)
    rw [frame_spans.l0, if_pos (by omega), if_pos (by omega), if_pos (by omega), okS_step hlt, hn, ih', rdT]
    by_cases h1 : (l.getD i z47).f0 ≥ (l.getD i z47).f1
    · rw [if_pos h1, decide_eq_false (by omega : ¬ (l.getD i z47).f0 < (l.getD i z47).f1)]; simp
    · rw [if_neg h1, decide_eq_true (by omega : (l.getD i z47).f0 < (l.getD i z47).f1)]
      by_cases h2 : (l.getD i z47).f1 > 4611686018427387904
      · rw [if_pos h2, decide_eq_false (by omega : ¬ (l.getD i z47).f1 ≤ 4611686018427387904)]; simp
      · rw [if_neg h2, decide_eq_true (by omega : (l.getD i z47).f1 ≤ 4611686018427387904)]
        by_cases h3 : i = 0
        · rw [if_neg (by omega), if_pos h3]; simp
        · have hp : wrap64 ((i : Int) - 1) = ((i - 1 : Nat) : Int) := by unfold wrap64; omega
          rw [if_pos (by omega), hp, if_pos (by omega), if_pos (by omega), rdT, if_neg h3]
          by_cases h4 : (l.getD i z47).f0 ≤ (l.getD (i - 1) z47).f1
          · rw [if_pos h4, decide_eq_false (by omega : ¬ (l.getD (i - 1) z47).f1 < (l.getD i z47).f0)]; simp
          · rw [if_neg h4, decide_eq_true (by omega : (l.getD (i - 1) z47).f1 < (l.getD i z47).f0)]; simp
theorem sp_eq {l : List S47} {K : Nat} (hl : l.length < 1000000) (hk : l.length < K) : frame_spans.f K l = some (spOk l) := by
  have h := sp_loop l hl l.length K 0 (by omega) (by omega)
  rw [frame_spans.f, show (0 : Int) = ((0 : Nat) : Int) from rfl, h]
  simp only [prevS, if_true, List.drop_zero, spOk]
  congr 1
  cases okS none l <;> simp
/-- Whether a frame may be: 0, or 50. -/
def uChk (a0 a1 a2 a3 a4 a5 a6 : Int) (a7 : Bool) (n : Nat) (l9 : List S47) : Int :=
  match fOffs a0 with
  | none => 50
  | some os => if uBad os a1 a2 a3 a4 a5 a6 = true then 50 else if a0 = 2 ∨ a0 = 3 then (if spOk l9 = true then uTail a0 a2 a7 n else 50) else if 0 < l9.length then 50 else uTail a0 a2 a7 n
theorem chk_eq {K : Nat} {a0 a1 a2 a3 a4 a5 a6 : Int} {a7 : Bool} {l8 : List Int} {l9 : List S47} (W1 : W64 a1) (W2 : W64 a2) (W3 : W64 a3) (W4 : W64 a4) (W5 : W64 a5) (W6 : W64 a6) (h8 : l8.length < 1000000) (h9 : l9.length < 1000000) (hK : l9.length < K) :
    frame_Check.f K a0 a1 a2 a3 a4 a5 a6 a7 l8 l9 = some (uChk a0 a1 a2 a3 a4 a5 a6 a7 l8.length l9) := by
  unfold frame_Check.f uChk
  rw [if_pos ⟨W1, W2, W3, W4, W5, W6, h8, h9⟩, sp_eq h9 hK]
  cases fOffs a0 with
  | none => rfl
  | some os =>
    simp only [Option.bind_some]
    repeat' split
    all_goals rfl

end Go.Proofs.Ytphakdfholkbdaa
