-- Written by a program of this session (wip/tools/xprint.py) for this claim.
import Derived.Test.YtphakdfholkbdaaPFrax0
namespace Go.Proofs.Ytphakdfholkbdaa.PFra
open Go.RowKit Go.Proofs.YtphakdfholkbdaaW.PrintWords Go.Proofs.YtphakdfholkbdaaW.PrintLast Go.Proofs.YtphakdfholkbdaaW.PrintMore
set_option linter.unusedVariables false
set_option linter.unusedSimpArgs false

-- given
/-! ### varint_Size: function 49 -/
set_option maxRecDepth 100000
set_option maxHeartbeats 4000000
def uSize (a0 : Int) : Int := if a0 < 64 then 1 else if a0 < 16384 then 2 else if a0 < 1073741824 then 4 else if a0 < 4611686018427387904 then 8 else 0
def varint_Size.f (a0 : Int) : Option Int := some (uSize a0)
theorem varint_Size.calls (a0 : Int) (r : Int) (w : World) (h : varint_Size.f a0 = some r) :
    Calls Try.prog 49 #[.int .u64 a0] w fun e w' => e = .returned (.int .i64 r) ∧ Below w.heap.size w w' := by
  have hu := Try.underlying98
  unfold varint_Size.f at h
  obtain rfl := Option.some.inj h
  have i0 : ∀ w, (Instr.index 98 (.agg #[.int .u64 64, .int .u64 16384, .int .u64 1073741824, .int .u64 4611686018427387904]) (.int .i64 0)).run Try.prog w = .ok (.int .u64 64) w := fun _ => by kernel_rfl
  have i1 : ∀ w, (Instr.index 98 (.agg #[.int .u64 64, .int .u64 16384, .int .u64 1073741824, .int .u64 4611686018427387904]) (.int .i64 1)).run Try.prog w = .ok (.int .u64 16384) w := fun _ => by kernel_rfl
  have i2 : ∀ w, (Instr.index 98 (.agg #[.int .u64 64, .int .u64 16384, .int .u64 1073741824, .int .u64 4611686018427387904]) (.int .i64 2)).run Try.prog w = .ok (.int .u64 1073741824) w := fun _ => by kernel_rfl
  have i3 : ∀ w, (Instr.index 98 (.agg #[.int .u64 64, .int .u64 16384, .int .u64 1073741824, .int .u64 4611686018427387904]) (.int .i64 3)).run Try.prog w = .ok (.int .u64 4611686018427387904) w := fun _ => by kernel_rfl
  unfold uSize
  have way : ∀ (n : Nat) (v : Int), (n = 1 ∧ a0 < 64 ∧ v = 1 ∨ n = 2 ∧ ¬ a0 < 64 ∧ a0 < 16384 ∧ v = 2 ∨ n = 3 ∧ ¬ a0 < 64 ∧ ¬ a0 < 16384 ∧ a0 < 1073741824 ∧ v = 4 ∨ n = 4 ∧ ¬ a0 < 64 ∧ ¬ a0 < 16384 ∧ ¬ a0 < 1073741824 ∧ a0 < 4611686018427387904 ∧ v = 8 ∨ n = 5 ∧ ¬ a0 < 64 ∧ ¬ a0 < 16384 ∧ ¬ a0 < 1073741824 ∧ ¬ a0 < 4611686018427387904 ∧ v = 0) →
      Calls Try.prog 49 #[.int .u64 a0] w fun e w' => e = .returned (.int .i64 v) ∧ Below w.heap.size w w' := by
    intro n v hw
    rcases hw with ⟨rfl, h1, rfl⟩ | ⟨rfl, h1, h2, rfl⟩ | ⟨rfl, h1, h2, h3, rfl⟩ | ⟨rfl, h1, h2, h3, h4, rfl⟩ | ⟨rfl, h1, h2, h3, h4, rfl⟩
    · go_enter Try.func49, Try.ntmps49
      go_wp2
      go_rounds 1
      go_ret
      exact ⟨rfl, below_alloc (Below.refl _ _) _⟩
    · go_enter Try.func49, Try.ntmps49
      go_wp2
      go_rounds 2
      go_ret
      exact ⟨rfl, below_alloc (Below.refl _ _) _⟩
    · go_enter Try.func49, Try.ntmps49
      go_wp2
      go_rounds 3
      go_ret
      exact ⟨rfl, below_alloc (Below.refl _ _) _⟩
    · go_enter Try.func49, Try.ntmps49
      go_wp2
      go_rounds 4
      go_ret
      exact ⟨rfl, below_alloc (Below.refl _ _) _⟩
    · go_enter Try.func49, Try.ntmps49
      go_wp2
      go_rounds 5
      go_ret
      exact ⟨rfl, below_alloc (Below.refl _ _) _⟩
  by_cases h1 : a0 < 64
  · rw [if_pos h1]; exact way 1 1 (by omega)
  · rw [if_neg h1]
    by_cases h2 : a0 < 16384
    · rw [if_pos h2]; exact way 2 2 (by omega)
    · rw [if_neg h2]
      by_cases h3 : a0 < 1073741824
      · rw [if_pos h3]; exact way 3 4 (by omega)
      · rw [if_neg h3]
        by_cases h4 : a0 < 4611686018427387904
        · rw [if_pos h4]; exact way 4 8 (by omega)
        · rw [if_neg h4]; exact way 5 0 (by omega)


end Go.Proofs.Ytphakdfholkbdaa.PFra
