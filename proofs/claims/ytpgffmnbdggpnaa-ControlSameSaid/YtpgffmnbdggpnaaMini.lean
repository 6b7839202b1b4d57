/- A few words that the texts of this claim use: gates ahead of a call, shifts by a count. No program in sight: for every program. -/
import Derived.Test.YtpgffmnbdggpnaaWWords
import Derived.Test.YtpgffmnbdggpnaaWLast
namespace Go.Proofs.YtpgffmnbdggpnaaW.PrintMore
theorem mini_ : True := trivial
end Go.Proofs.YtpgffmnbdggpnaaW.PrintMore
namespace Go.Proofs.YtpgffmnbdggpnaaW.PrintWords
open Go.RowKit
section
variable {P : Program} {ops : Array Oper} {rest : List Oper} {o : Oper} {a : Act} {Q : Exit → Act → World → Prop} {W : World}
/-- The next operation calls f. -/
theorem gate_callee {f : FuncId} {as : Array Operand} {ts : Array TypeId} (_ : o.op = .call { callee := .value (.func f), args := as, argTypes := ts }) : wpList P ops Q (o :: rest) a W → wpList P ops Q (o :: rest) a W := id
/-- The next operation is a builtin. -/
theorem gate_builtin {b : Builtin} {xs : Array Operand} {ts : Array TypeId} (_ : o.op = .call { callee := .builtin b, args := xs, argTypes := ts }) : wpList P ops Q (o :: rest) a W → wpList P ops Q (o :: rest) a W := id
end
theorem drewN_self (w : World) (n : Nat) : w.drewN n = w.drewN n := rfl
/-- Shifts by a count: one beyond the width leaves nothing, or the sign. -/
def shl (k : IntKind) (x y : Int) : Int := k.wrap (x * 2 ^ min y.toNat k.bits)
def shr (k : IntKind) (x y : Int) : Int := x / 2 ^ min y.toNat k.bits
theorem shl_small {k : IntKind} {x y j : Int} (h : shl k x y = j) (hy : y ≤ k.bits) : k.wrap (x * 2 ^ y.toNat) = j := by
  have e : min y.toNat k.bits = y.toNat := by omega
  rw [← h, shl, e]
theorem shr_small {k : IntKind} {x y j : Int} (h : shr k x y = j) (hy : y ≤ k.bits) : x / 2 ^ y.toNat = j := by
  have e : min y.toNat k.bits = y.toNat := by omega
  rw [← h, shr, e]
end Go.Proofs.YtpgffmnbdggpnaaW.PrintWords
