/- The window's parts of a controller, where they stand: for every controller in memory. -/
import Derived.Deep.DeepMust
import Derived.Test.YtpgffmnbdggpnaaKA
namespace Go.Proofs.Ytpgffmnbdggpnaa.PCv
open Go.RowKit Go.Proofs.YtpgffmnbdggpnaaW.PrintWords Go.Proofs.YtpgffmnbdggpnaaW.PrintLast Go.Proofs.YtpgffmnbdggpnaaW.PrintMore
set_option linter.unusedVariables false
set_option linter.unusedSimpArgs false
set_option maxHeartbeats 1000000 in
theorem parts_reno (g : Nat) (w : World) (k0 : w.cell? ⟨g, 0, none⟩ = some (.int .i64 1)) :
    Calls Try.prog 36 #[.pointer (some ⟨g, 0, none⟩)] w fun e w' => e = .returned (.tuple #[.pointer (some ⟨g, 1, none⟩), .pointer (some ⟨g, 2, none⟩), .pointer (some ⟨g, 3, none⟩)]) ∧ Drawn0 w w' := by
  have hu36 := Try.underlying36
  have hu25 := Try.underlying25
  have hu29 := Try.underlying29
  have hu34 := Try.underlying34
  go_enter Try.func36, Try.ntmps36
  go_wp2
  go_quiet (fail)
  go_wp2
  go_ret3
  exact ⟨rfl, ⟨_, rfl⟩⟩
set_option maxHeartbeats 1000000 in
theorem parts_cubic (g : Nat) (w : World) (k0 : w.cell? ⟨g, 0, none⟩ = some (.int .i64 2)) :
    Calls Try.prog 36 #[.pointer (some ⟨g, 0, none⟩)] w fun e w' => e = .returned (.tuple #[.pointer (some ⟨g, 12, none⟩), .pointer (some ⟨g, 13, none⟩), .pointer (some ⟨g, 14, none⟩)]) ∧ Drawn0 w w' := by
  have hu36 := Try.underlying36
  have hu25 := Try.underlying25
  have hu29 := Try.underlying29
  have hu34 := Try.underlying34
  go_enter Try.func36, Try.ntmps36
  go_wp2
  go_quiet (fail)
  go_wp2
  go_ret3
  exact ⟨rfl, ⟨_, rfl⟩⟩
set_option maxHeartbeats 1000000 in
theorem parts_prague (g : Nat) (w : World) (k0 : w.cell? ⟨g, 0, none⟩ = some (.int .i64 4)) :
    Calls Try.prog 36 #[.pointer (some ⟨g, 0, none⟩)] w fun e w' => e = .returned (.tuple #[.pointer (some ⟨g, 30, none⟩), .pointer (some ⟨g, 31, none⟩), .pointer (some ⟨g, 32, none⟩)]) ∧ Drawn0 w w' := by
  have hu36 := Try.underlying36
  have hu25 := Try.underlying25
  have hu29 := Try.underlying29
  have hu34 := Try.underlying34
  go_enter Try.func36, Try.ntmps36
  go_wp2
  go_quiet (fail)
  go_wp2
  go_ret3
  exact ⟨rfl, ⟨_, rfl⟩⟩
end Go.Proofs.Ytpgffmnbdggpnaa.PCv
