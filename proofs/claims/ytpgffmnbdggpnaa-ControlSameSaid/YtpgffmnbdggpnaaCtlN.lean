/- Numbers of 64 bits. -/
import Derived.Deep.DeepMust
import Derived.Test.YtpgffmnbdggpnaaNum
import Derived.Test.YtpgffmnbdggpnaaPCvx0
import Derived.Test.YtpgffmnbdggpnaaSel
namespace Go.Proofs.Ytpgffmnbdggpnaa.PCv
open Go.RowKit Go.Proofs.YtpgffmnbdggpnaaW.PrintWords Go.Proofs.YtpgffmnbdggpnaaW.PrintLast Go.Proofs.YtpgffmnbdggpnaaW.PrintMore
set_option linter.unusedVariables false
set_option linter.unusedSimpArgs false
/-- A controller's cells. -/
@[reducible] def K36 (x0 : Int) (x1 : Int) (x2 : Int) (x3 : Int) (x4 : Int) (x5 : Int) (x6 : Int) (x7 : Int) (x8 : Int) (x9 : Int) (x10 : Int) (x11 : Int) (x12 : Int) (x13 : Int) (x14 : Int) (x15 : Bool) (x16 : Int) (x17 : Int) (x18 : Int) (x19 : Int) (x20 : Int) (x21 : Value) (x22 : Int) (x23 : Int) (x24 : Int) (x25 : Int) (x26 : Int) (x27 : Int) (x28 : Int) (x29 : Int) (x30 : Int) (x31 : Int) (x32 : Int) (x33 : Int) (x34 : Int) (x35 : Int) (x36 : Int) (x37 : Int) (x38 : Bool) (x39 : Int) (x40 : Int) : List Value := [.int .i64 x0, .int .u64 x1, .int .u64 x2, .int .u64 x3, .int .u64 x4, .int .i64 x5, .int .u64 x6, .int .u64 x7, .int .u64 x8, .int .u64 x9, .int .u64 x10, .int .u64 x11, .int .u64 x12, .int .u64 x13, .int .u64 x14, .bool x15, .int .u64 x16, .int .u64 x17, .int .u64 x18, .int .u64 x19, .int .i64 x20, x21, .int .u64 x22, .int .u64 x23, .int .u64 x24, .int .u64 x25, .int .u64 x26, .int .u64 x27, .int .u64 x28, .int .u64 x29, .int .u64 x30, .int .u64 x31, .int .u64 x32, .int .u64 x33, .int .u64 x34, .int .u64 x35, .int .u64 x36, .int .u64 x37, .bool x38, .int .u64 x39, .int .u64 x40]
theorem wdiv {x : Int} (h : W64 x) (n : Int) (hn : 1 ≤ n) : IntKind.u64.wrap (Int.tdiv x n) = x / n := by
  rw [Int.tdiv_eq_ediv_of_nonneg h.1]
  have h1 := Int.ediv_nonneg h.1 (show (0 : Int) ≤ n by omega)
  have h2 := Int.ediv_le_self n h.1
  exact w64 (by omega)
theorem div_w {x : Int} (h : W64 x) (n : Int) (hn : 1 ≤ n) : W64 (x / n) := by
  have h1 := Int.ediv_nonneg h.1 (show (0 : Int) ≤ n by omega)
  have h2 := Int.ediv_le_self n h.1
  omega
theorem min_w {a b : Int} (ha : W64 a) (hb : W64 b) : W64 (min a b) := by omega
theorem max_w {a b : Int} (ha : W64 a) (hb : W64 b) : W64 (max a b) := by omega
theorem lt_of_le {a b : Int} (h : decide (b ≤ a) = true) : decide (a < b) = false := by simp at *; omega
theorem lt_of_nle {a b : Int} (h : decide (b ≤ a) = false) : decide (a < b) = true := by simp at *; omega
theorem le_of_lt' {a b : Int} (h : decide (a < b) = true) : decide (b ≤ a) = false := by simp at *; omega
theorem le_of_nlt {a b : Int} (h : decide (a < b) = false) : decide (b ≤ a) = true := by simp at *; omega
theorem wsub {a b : Int} (ha : W64 a) (hb : W64 b) (h : b ≤ a) : IntKind.u64.wrap (a - b) = a - b := w64 (by omega)
end Go.Proofs.Ytpgffmnbdggpnaa.PCv
