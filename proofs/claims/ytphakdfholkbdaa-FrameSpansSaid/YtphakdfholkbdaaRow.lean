/- A row of structs: an element of it, read whole; and a struct written whole, as a step of a region whose order is open. No program in sight: for every program. -/
import Derived.Test.YtphakdfholkbdaaSel
import Derived.Test.YtphakdfholkbdaaNum
import Derived.Laws.Cells
namespace Go.Proofs.Ytphakdfholkbdaa
open Go.RowKit Go.Proofs.YtphakdfholkbdaaW.PrintWords Go.Proofs.YtphakdfholkbdaaW.PrintLast
set_option linter.unusedVariables false
/-- From an address on stand these cells. -/
structure RowAt (w : World) (p : Addr) (l : List Value) : Prop where mk :: (out : ∀ j u, l[j]? = some u → w.cell? (p.add j) = some u)
theorem RowAt.since {w0 w : World} {p : Addr} {l : List Value} (h : RowAt w0 p l) (hs : Since w0 w) : RowAt w p l := ⟨fun j u hu => (hs.out.cell (World.block_lt_of_cell? w0 _ (h.out j u hu))).trans (h.out j u hu)⟩
theorem cell_since {w0 w : World} {p : Addr} {v : Value} (h : w0.cell? p = some v) (hs : Since w0 w) : w.cell? p = some v := (hs.out.cell (World.block_lt_of_cell? w0 _ h)).trans h
theorem wadd0 {x : Int} (h : W64 x) : IntKind.u64.wrap (x + 0) = x := by rw [Int.add_zero]; exact w64 h
theorem w0add {x : Int} (h : W64 x) : IntKind.u64.wrap (0 + x) = x := by rw [Int.zero_add]; exact w64 h
theorem wf64 {a : Int} (h : (Lit.int .u64 a).wf = true) : W64 a := by
  have e1 : IntKind.u64.min = 0 := rfl
  have e2 : IntKind.u64.max = 18446744073709551615 := rfl
  simp [Lit.wf, e1, e2] at h
  omega
theorem next_ {x : Int} (h0 : 0 ≤ x) (h1 : x < 1000) : wrap64 (x + 1) = x + 1 := by unfold wrap64; omega
section
variable {P : Program} {o : Oper} {a : Act} {W : World}
theorem run_row_load (w : World) {p : Addr} {ty : TypeId} {l : List Value} {d : TypeDesc} (hB : RowAt w p l)
    (hu : P.underlying ty = some d) (hd : (match d with | .struct _ | .array _ _ => true | _ => false) = true) (hi : (P.info? ty).map (·.size) = some l.length) :
    (loadVar ty p).run P w = .ok (.agg l.toArray) w := by
  have hl := run_loadCells_list (P := P) (w := w) p l hB.out
  obtain ⟨i, hi, hs⟩ := Option.map_eq_some_iff.1 hi
  have hagg : (isAgg ty).run P w = .ok true w := by
    unfold isAgg
    rw [Sem.run_bind, run_underlying hu w]
    cases d <;> simp_all
  simp [loadVar, Sem.run_bind, hagg, sizeOf, typeInfo, hi, hs, hl]
theorem exec_row_load (ty : TypeId) (x : Operand) (ho : o.op = .load ty x) (p : Addr) (l : List Value) {d : TypeDesc} (hx : a.eval x = .pointer (some p)) (hB : RowAt W p l)
    (hu : P.underlying ty = some d) (hd : (match d with | .struct _ | .array _ _ => true | _ => false) = true) (hi : (P.info? ty).map (·.size) = some l.length) :
    (execOp a.eval o).run P W = .ok (.value (.agg l.toArray)) W := by
  unfold execOp
  simp only [ho, hx, Instr.loadAt, Instr.sureAddr, Sem.run_bind, Sem.run_pure, Result.andThen_ok, run_row_load (P := P) W hB hu hd hi]
end
section
variable {P : Program} {ops : Array Oper} {Q : Exit → Act → World → Prop}
/-- A struct is written, as the last step of a region. -/
theorem skip_seg {o : Oper} {a : Act} {W : World} {K : Act → World → Prop} (hw : Region.wanted o (yielded ops a.tmps) = true) (hN : o.dst = none) (ty : TypeId) (x y : Operand) (ho : o.op = .store ty x y) (g off : Nat) {t : TypeId} {l : List Value} (seg l' : List Value) (u : Value) (hx : a.eval x = .pointer (some ⟨g, off, none⟩)) (hy : a.eval y = u) (hu : u.cells.toList = seg)
    (hB : Blk W g t l) (hi : (P.info? ty).map (·.size) = some seg.length) (hfit : off + seg.length ≤ l.length) (h1 : seg.all (·.oneCell') = true) (hl : l.take off ++ seg ++ l.drop (off + seg.length) = l')
    (h : ∀ w1, Blk w1 g t l' → W.grownBy w1 (some g) → K a w1) : if Region.wanted o (yielded ops a.tmps) = true then Oper.wp P o a W K Q else K (a.put none undef) W := by
  have hrun : (Instr.storeAt ty (.pointer (some ⟨g, off, none⟩)) u).run P W = .ok () (W.setCells g off seg) := run_store_run ty u seg hB.out hu hi (by simpa using hfit) (fun q hq => List.all_eq_true.1 h1 q hq)
  obtain ⟨cur', h3, h4, h5⟩ := setCells_row seg off W l.toArray hB.out (by simpa using hfit)
  obtain ⟨s1, s2, s3, s4⟩ := setCells_same g seg off W
  have hcur : cur' = l'.toArray := by
    apply Array.toList_inj.1
    rw [h5, ← hl]
  refine skip_ (w1 := W.setCells g off seg) hw hN ?_ (h _ ⟨by rw [← hcur]; exact h3⟩ ⟨s1, s2, s3, by rw [s4]; exact Nat.le_refl _, fun k _ hk => setCells_far _ _ k (fun he => hk (by rw [he]))⟩)
  unfold execOp
  simp only [ho, hx, hy, Sem.run_bind, Sem.run_pure, Result.andThen_ok, hrun]
end
end Go.Proofs.Ytphakdfholkbdaa
