-- Written by a program of this session (wip/tools/xprint.py) for this claim.
import Derived.Test.YtphakdfholkbdaaPFrax0
import Derived.Test.YtphakdfholkbdaaPFrax2
import Derived.Test.YtphakdfholkbdaaFrPt
namespace Go.Proofs.Ytphakdfholkbdaa.PFra
open Go.RowKit Go.Proofs.YtphakdfholkbdaaW.PrintWords Go.Proofs.YtphakdfholkbdaaW.PrintLast Go.Proofs.YtphakdfholkbdaaW.PrintMore
set_option linter.unusedVariables false
set_option linter.unusedSimpArgs false

-- given
/-! ### frame_Parse: function 17 -/
-- IMPORT Derived.Test.YtphakdfholkbdaaFrPt
set_option maxRecDepth 100000
set_option maxHeartbeats 4000000
def frame_Parse.f (l0 : List Int) : Option (Int × Int × Int × Int × Int × Int × Int × Bool × List Int × (List (S47)) × Int × Int) := if bytesOk l0 = true ∧ l0.length < 1000000 then some (uParse l0) else none
theorem frame_Parse.calls (A0 : Option Addr) (c0 : Nat) (l0 : List Int) (r1 : Int) (r2 : Int) (r3 : Int) (r4 : Int) (r5 : Int) (r6 : Int) (r7 : Int) (r8 : Bool) (r9 : List Int) (r10 : List (S47)) (r11 : Int) (r12 : Int) (w : World) (hr0 : Kd.C (Kd.int .u8) w A0 l0.length l0) (hc0 : l0.length ≤ c0) (h : frame_Parse.f l0 = some (r1, r2, r3, r4, r5, r6, r7, r8, r9, r10, r11, r12)) :
    Calls Try.prog 17 #[.slice A0 l0.length c0] w fun e w' => ∃ v8_ v9_ : Value, e = .returned (.tuple #[.agg #[.int .i64 r1, .int .u64 r2, .int .u64 r3, .int .u64 r4, .int .u64 r5, .int .u64 r6, .int .u64 r7, .bool r8, v8_, v9_], .int .i64 r11, .int .i64 r12]) ∧ Kd.R (Kd.int .u8) 5 w' w.heap.size (fun _ => True) v8_ r9 ∧ Kd.R k47 47 w' w.heap.size (fun _ => True) v9_ r10 ∧ Below w.heap.size w w' := by
  unfold frame_Parse.f at h
  split at h
  · rename_i hh
    obtain ⟨hb, hl⟩ := hh
    unfold uParse at h
    cases hR : rFr l0 with
    | none =>
      rw [hR] at h
      simp only [Option.some.injEq, Prod.mk.injEq] at h
      obtain ⟨rfl, rfl, rfl, rfl, rfl, rfl, rfl, rfl, rfl, rfl, rfl, rfl⟩ := h
      refine (parse_no A0 c0 l0 w hr0 hc0 hb hl hR).mono ?_
      rintro e w' ⟨rfl, hS⟩
      exact ⟨_, _, rfl, Kd.R_nil _ _ _ _ _, Kd.R_nil _ _ _ _ _, hS.out⟩
    | some q =>
      obtain ⟨K, f, fin, d, s, r⟩ := q
      rw [hR] at h
      simp only [Option.some.injEq, Prod.mk.injEq] at h
      obtain ⟨rfl, rfl, rfl, rfl, rfl, rfl, rfl, rfl, rfl, rfl, rfl, rfl⟩ := h
      obtain ⟨_, _, hlt⟩ := rFr_suffix hb hR
      refine (parse_ok A0 c0 l0 w hr0 hc0 hb hl K f fin d s r hR (by rw [IntKind.wrap_i64]; omega)).mono ?_
      rintro e w' ⟨dv, sv, rfl, hO, hS, hs⟩
      exact ⟨_, _, rfl, hO.out, hS.to, hs.out⟩
  · cases h


end Go.Proofs.Ytphakdfholkbdaa.PFra
