/- A model changes by no answer that tells less than is known: for every model of at most a hundred rates, with no condition. -/
import Derived.Test.YtoanhimhomgjmaaProEq
import Derived.Test.YtoanhimhomgjmaaPPrDx20
import Derived.Test.YtoanhimhomgjmaaPPrDEv52
namespace Go.Proofs.Ytoanhimhomgjmaa.Pure
set_option linter.unusedVariables false
open Go.RowKit Go.Proofs.Ytoanhimhomgjmaa.PPrD Go.Proofs.Ytoanhimhomgjmaa.ProEq Go.Proofs.YtoanhimhomgjmaaW.PrintWords Go.Proofs.YtoanhimhomgjmaaW.PrintLast

theorem awake_200 : wigwaglaw13_awake.f 200 = some true := by decide +kernel
theorem same_loop (l : List S52) (hL : l.length < 1000000) : ∀ (d k i : Nat), i + d = l.length → d < k → wigwagref02_Same.l0 k l l (i : Int) = some true := by
  intro d
  induction d with
  | zero =>
    intro k i hi hk
    obtain ⟨k, rfl⟩ : ∃ m, k = m + 1 := ⟨k - 1, by omega⟩
    simp only [wigwagref02_Same.l0]
    rw [if_neg (by omega)]
  | succ d ih =>
    intro k i hi hk
    obtain ⟨k, rfl⟩ : ∃ m, k = m + 1 := ⟨k - 1, by omega⟩
    have hwr : wrap64 ((i : Int) + 1) = ((i + 1 : Nat) : Int) := by rw [wrap64_is (by omega) (by omega)]; simp
    simp only [wigwagref02_Same.l0]
    rw [if_pos (by omega), if_pos (by omega), if_pos (by omega), hwr, ih k (i + 1) (by omega) (by omega)]
    simp
theorem same_eq {a0 a2 a3 a4 a5 a6 a7 a8 a9 : Int} {l : List S52} (k : Nat) (hk : l.length < k) (hL : l.length < 1000000) : wigwagref13_Same.f k a0 l a2 a3 a4 a5 a6 a7 a8 a9 a0 l a2 a3 a4 a5 a6 a7 a8 a9 = some true := by
  unfold wigwagref13_Same.f wigwagref02_Same.f
  have := same_loop l hL l.length k 0 (by omega) hk
  rw [if_pos rfl, show (0 : Int) = ((0 : Nat) : Int) from rfl, this]
  simp
theorem ProbeQuiet : ∀ (a0 : Int) (l : List S52) (a2 a3 a4 a5 a6 a7 a8 a9 b c : Int), (Lit.int .i64 a0).wf = true → (∀ x ∈ l, WfS52 x) → (Lit.int .u64 a2).wf = true → (Lit.int .u64 a3).wf = true → (Lit.int .u64 a4).wf = true → (Lit.int .u64 a5).wf = true → (Lit.int .u64 a6).wf = true → (Lit.int .u64 a7).wf = true → (Lit.int .u64 a8).wf = true → (Lit.int .u64 a9).wf = true → (Lit.int .u64 b).wf = true → (Lit.int .u64 c).wf = true → ∃ k, wigwaglaw13_ProbeQuiet.f k a0 l a2 a3 a4 a5 a6 a7 a8 a9 b c = some true := by
  intro a0 l a2 a3 a4 a5 a6 a7 a8 a9 b c w0 wl w2 w3 w4 w5 w6 w7 w8 w9 wb wc
  have hl : SWf l := fun x hx => ⟨wf64 (wl x hx).1, wf64 (wl x hx).2⟩
  have q2 := wf64 w2
  have q3 := wf64 w3
  have q4 := wf64 w4
  have q5 := wf64 w5
  have q6 := wf64 w6
  have q7 := wf64 w7
  have q8 := wf64 w8
  have q9 := wf64 w9
  have qb := wf64 wb
  have qc := wf64 wc
  refine ⟨200, ?_⟩
  unfold wigwaglaw13_ProbeQuiet.f
  rw [awake_200, best_eq]
  simp only [Option.bind_some]
  by_cases h1 : (l.length : Int) > 100
  · rw [if_pos h1]
  rw [if_neg h1]
  by_cases h2 : a0 = 0
  · subst h2
    rw [if_pos rfl]
    by_cases h3 : c ≥ uBest l
    · rw [if_pos h3]
    rw [if_neg h3]
    by_cases h4 : b < a2
    · rw [if_pos h4]
    rw [if_neg h4]
    by_cases h5 : a3 > 4611686018427387904
    · rw [if_pos h5]
    rw [if_neg h5]
    have hA : probe_Ack.f 200 0 l a2 a3 a4 a5 a6 a7 a8 a9 a3 0 0 0 0 b 0 c true false = some (0, l, a2, a3, a4, a5, a6, a7, a8, a9) := by
      rw [ack_eq hl (by omega) (by omega) q7 q8 q2 q3 q4 q5 q6 q9 qc qb]
      have e3 : uAdd a3 10000 = a3 + 10000 := if_pos (by omega)
      unfold pAck
      simp only [e3, Bool.false_eq_true, if_false]
      rw [decide_eq_false (by omega), if_neg (show ¬ (true = false ∨ c ≥ uBest l) by simp; omega)]
      simp only [Bool.false_eq_true, false_or]
      rw [if_neg h4, if_neg h4]
      unfold pMove
      rw [if_pos rfl, if_neg (by simp)]
    rw [hA]
    simp only [Option.bind_some]
    rw [same_eq 200 (by omega) (by omega)]
    rfl
  · rw [if_neg h2]
end Go.Proofs.Ytoanhimhomgjmaa.Pure
