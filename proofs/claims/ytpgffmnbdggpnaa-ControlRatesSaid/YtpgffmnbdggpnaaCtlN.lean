/- Numbers of 64 bits. -/
import Derived.Deep.DeepMust
import Derived.Test.YtpgffmnbdggpnaaNum
import Derived.Test.YtpgffmnbdggpnaaPCtlx0
namespace Go.Proofs.Ytpgffmnbdggpnaa.PCtl
open Go.RowKit Go.Proofs.YtpgffmnbdggpnaaW.PrintWords Go.Proofs.YtpgffmnbdggpnaaW.PrintLast Go.Proofs.YtpgffmnbdggpnaaW.PrintMore
set_option linter.unusedVariables false
set_option linter.unusedSimpArgs false
theorem wdiv {x : Int} (h : W64 x) (n : Int) (hn : 1 ≤ n) : IntKind.u64.wrap (Int.tdiv x n) = x / n := by
  rw [Int.tdiv_eq_ediv_of_nonneg h.1]
  have h1 := Int.ediv_nonneg h.1 (show (0 : Int) ≤ n by omega)
  have h2 := Int.ediv_le_self n h.1
  exact w64 (by omega)
theorem div_w {x : Int} (h : W64 x) (n : Int) (hn : 1 ≤ n) : W64 (x / n) := by
  have h1 := Int.ediv_nonneg h.1 (show (0 : Int) ≤ n by omega)
  have h2 := Int.ediv_le_self n h.1
  omega
theorem min_w {a b : Int} (ha : W64 a) (hb : W64 b) : W64 (min a b) := by omega
theorem max_w {a b : Int} (ha : W64 a) (hb : W64 b) : W64 (max a b) := by omega
theorem lt_of_le {a b : Int} (h : decide (b ≤ a) = true) : decide (a < b) = false := by simp at *; omega
theorem lt_of_nle {a b : Int} (h : decide (b ≤ a) = false) : decide (a < b) = true := by simp at *; omega
theorem le_of_lt' {a b : Int} (h : decide (a < b) = true) : decide (b ≤ a) = false := by simp at *; omega
theorem le_of_nlt {a b : Int} (h : decide (a < b) = false) : decide (b ≤ a) = true := by simp at *; omega
theorem wsub {a b : Int} (ha : W64 a) (hb : W64 b) (h : b ≤ a) : IntKind.u64.wrap (a - b) = a - b := w64 (by omega)
end Go.Proofs.Ytpgffmnbdggpnaa.PCtl
