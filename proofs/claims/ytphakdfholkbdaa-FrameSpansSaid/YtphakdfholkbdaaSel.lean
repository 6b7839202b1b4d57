/- A struct's read, as a step of a region whose order is open. No program in sight: for every program. -/
import Derived.Test.YtphakdfholkbdaaSeg
import Derived.Test.YtphakdfholkbdaaWLast
namespace Go.Proofs.Ytphakdfholkbdaa
open Go.RowKit Go.Proofs.YtphakdfholkbdaaW.PrintWords Go.Proofs.YtphakdfholkbdaaW.PrintLast
set_option linter.unusedVariables false
/-- Which operations have come up. -/
def bs (n k : Nat) : Array Bool := ((List.range n).map fun i => k.testBit i).toArray
theorem Blk.at {w : World} {g : Nat} {t : TypeId} {l : List Value} (h : Blk w g t l) (i : Nat) {v : Value} (hv : l[i]? = some v) : w.cell? ⟨g, i, none⟩ = some v := (h.cell i).trans hv
section
variable {P : Program} {o : Oper} {a : Act} {W : World}
theorem exec_seg_load (ty : TypeId) (x : Operand) (ho : o.op = .load ty x) (g off : Nat) {t : TypeId} {l : List Value} (seg : List Value) {d : TypeDesc} (hx : a.eval x = .pointer (some ⟨g, off, none⟩)) (hB : Blk W g t l)
    (hseg : (l.drop off).take seg.length = seg) (hu : P.underlying ty = some d) (hd : (match d with | .struct _ | .array _ _ => true | _ => false) = true) (hi : (P.info? ty).map (·.size) = some seg.length) :
    (execOp a.eval o).run P W = .ok (.value (.agg seg.toArray)) W := by
  unfold execOp
  simp only [ho, hx, Instr.loadAt, Instr.sureAddr, Sem.run_bind, Sem.run_pure, Result.andThen_ok, run_seg_load (P := P) W hB hseg hu hd hi]
end
section
variable {P : Program} {ops : Array Oper} {Q : Exit → Act → World → Prop} {md : Region.Mode} {S : World → Prop} {ds : List Nat}
/-- An operation that yields a value in every world. -/
theorem pu (i : Nat) (N : Tmp) (v : Value) (k : Nat) {oi : Oper} {fuel : Nat} {l : Array Bool} {a a' : Act} {w : World} (hi : ops[i]? = some oi) (hN : oi.dst = some N) (hc : anyB md ops l (bs ops.size k) i = true)
    (hQ : ∀ c a w, Q (.panic c) (a.put oi.dst v) w → Q (.panic c) a w) (hw : Region.wanted oi (yielded ops a.tmps) = true) (hr : ∀ w, (execOp a.eval oi).run P w = .ok (.value v) w) (ha : a.put (some N) v = a')
    (h : wpAnyLast P md ops Q S ds fuel (bs ops.size k) a' w) : wpAnyLast P md ops Q S ds (fuel + 1) l a w := pure_ (bs ops.size k) hi hN hc hQ (Or.inl ⟨hw, hr⟩) ha h
end
end Go.Proofs.Ytphakdfholkbdaa
