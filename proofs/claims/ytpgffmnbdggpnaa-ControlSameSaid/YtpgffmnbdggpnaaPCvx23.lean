-- Written by a program of this session (wip/tools/xprint.py) for this claim.
import Derived.Test.YtpgffmnbdggpnaaPCvx0
namespace Go.Proofs.Ytpgffmnbdggpnaa.PCv
open Go.RowKit Go.Proofs.YtpgffmnbdggpnaaW.PrintWords Go.Proofs.YtpgffmnbdggpnaaW.PrintLast Go.Proofs.YtpgffmnbdggpnaaW.PrintMore
set_option linter.unusedVariables false
set_option linter.unusedSimpArgs false

/-! ### fix_Add: function 25 -/
theorem fix_Add.add64 (x y : Int) (hx : 0 ≤ x) (hy : 0 ≤ y) (w : World) : (callFunc 55 #[.int .u64 x, .int .u64 y, .int .u64 0]).run Try.prog w =
    .ok (.value (.tuple #[.int .u64 ((x + y) % 18446744073709551616), .int .u64 ((x + y) / 18446744073709551616)])) w := by
  rw [run_callFunc_extern Try.func55 (by kernel_rfl) (by kernel_rfl) (by kernel_rfl) (e := Go.add64Entry) (by kernel_rfl), Go.run_add64 x y 0 hx hy (by omega) (by omega)]
  simp only [Result.andThen, Int.add_zero]
def fix_Add.f (a0 : Int) (a1 : Int) : Option Int := if W64 a0 ∧ W64 a1 then some (uAdd a0 a1) else none
set_option maxHeartbeats 1000000 in
theorem fix_Add.calls (a0 : Int) (a1 : Int) (r : Int) (w : World) (h : fix_Add.f a0 a1 = some r) :
    Calls Try.prog 25 #[.int .u64 a0, .int .u64 a1] w fun e w' => e = .returned (.int .u64 r) ∧ Drawn0 w w' := by
  unfold fix_Add.f at h
  split at h
  · rename_i hw
    obtain ⟨⟨h0, h1⟩, h2, h3⟩ := hw
    have hr := Lib.hid (Option.some.inj h)
    clear h
    by_cases hc : a0 + a1 ≤ 18446744073709551615
    · have hd : decide (0 < (a0 + a1) / 18446744073709551616) = false := by simp; omega
      go_enter Try.func25, Try.ntmps25
      go_wp2_with (simp only [fix_Add.add64 a0 a1 h0 h2])
      go_ret
      refine ⟨?_, Drawn0.refl _⟩
      exact ret_int (by rw [← hr.out]; unfold uAdd; rw [if_pos hc]; omega)
    · have hd : decide (0 < (a0 + a1) / 18446744073709551616) = true := by simp; omega
      go_enter Try.func25, Try.ntmps25
      go_wp2_with (simp only [fix_Add.add64 a0 a1 h0 h2])
      go_ret
      refine ⟨?_, Drawn0.refl _⟩
      exact ret_int (by rw [← hr.out]; unfold uAdd; rw [if_neg (by omega)])
  · cases h
theorem fix_Add.C (a b : Int) (ha : W64 a) (hb : W64 b) (w : World) : Calls Try.prog 25 #[.int .u64 a, .int .u64 b] w fun e w' => e = .returned (.int .u64 (uAdd a b)) ∧ Drawn0 w w' :=
  fix_Add.calls a b _ w (by unfold fix_Add.f; rw [if_pos ⟨ha, hb⟩])
theorem fix_Add.Q (a b : Int) (ha : W64 a) (hb : W64 b) (w : World) (n : Nat) : Calls Try.prog 25 #[.int .u64 a, .int .u64 b] (w.drewN n) fun e w' => e = .returned (.int .u64 (uAdd a b)) ∧ ∃ m, w' = w.drewN m := quiet_c (fix_Add.C a b ha hb) n


end Go.Proofs.Ytpgffmnbdggpnaa.PCv
