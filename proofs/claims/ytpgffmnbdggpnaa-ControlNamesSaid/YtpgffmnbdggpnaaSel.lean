/- A struct's read, as a step of a region whose order is open. No program in sight: for every program. -/
import Derived.Test.YtpgffmnbdggpnaaSeg
namespace Go.Proofs.Ytpgffmnbdggpnaa
open Go.RowKit Go.Proofs.YtpgffmnbdggpnaaW.PrintWords
set_option linter.unusedVariables false
section
variable {P : Program} {o : Oper} {a : Act} {W : World}
theorem exec_seg_load (ty : TypeId) (x : Operand) (ho : o.op = .load ty x) (g off : Nat) {t : TypeId} {l : List Value} (seg : List Value) {d : TypeDesc} (hx : a.eval x = .pointer (some ⟨g, off, none⟩)) (hB : Blk W g t l)
    (hseg : (l.drop off).take seg.length = seg) (hu : P.underlying ty = some d) (hd : (match d with | .struct _ | .array _ _ => true | _ => false) = true) (hi : (P.info? ty).map (·.size) = some seg.length) :
    (execOp a.eval o).run P W = .ok (.value (.agg seg.toArray)) W := by
  unfold execOp
  simp only [ho, hx, Instr.loadAt, Instr.sureAddr, Sem.run_bind, Sem.run_pure, Result.andThen_ok, run_seg_load (P := P) W hB hseg hu hd hi]
end
end Go.Proofs.Ytpgffmnbdggpnaa
