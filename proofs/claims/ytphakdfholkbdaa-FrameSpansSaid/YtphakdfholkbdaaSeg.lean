/- Structs in memory, whole: what is read of a block from a cell on, and what is written there, as events of a walk. No program in sight: for every program. -/
import Derived.Laws.Rows
import Derived.Laws.CopyRow
import Derived.Test.YtphakdfholkbdaaWWords
namespace Go.Proofs.Ytphakdfholkbdaa
open Go.RowKit Go.Proofs.YtphakdfholkbdaaW.PrintWords
set_option linter.unusedVariables false

theorem nle {a b : Nat} (h : Nat.ble a b = true) : a ≤ b := Nat.le_of_ble_eq_true h
/-- Block g is a row of cells of one's own. -/
structure Blk (w : World) (g : Nat) (t : TypeId) (l : List Value) : Prop where mk :: (out : w.heap[g]? = some (.cells l.toArray t (0, 0)))
theorem Blk.cell {w : World} {g : Nat} {t : TypeId} {l : List Value} (h : Blk w g t l) (i : Nat) : w.cell? ⟨g, i, none⟩ = l[i]? := by
  have := cell_of_row w g i l.toArray t (0, 0) h.out
  simpa using this
theorem Blk.frozen {w : World} {g : Nat} {t : TypeId} {l : List Value} (h : Blk w g t l) (i : Nat) : w.frozen? ⟨g, i, none⟩ = false := blk_frozen h.out i
theorem Blk.lt {w : World} {g : Nat} {t : TypeId} {l : List Value} (h : Blk w g t l) : g < w.heap.size := blk_lt h.out
theorem Blk.below {w w1 : World} {g : Nat} {t : TypeId} {l : List Value} (h : Blk w g t l) (hb : Below w.heap.size w w1) : Blk w1 g t l := ⟨blk_below h.out hb⟩
theorem Blk.grown {w w1 : World} {g k : Nat} {t : TypeId} {l : List Value} (h : Blk w g t l) (hg : w.grownBy w1 (some k)) (hne : g ≠ k) : Blk w1 g t l := ⟨blk_grown h.out hg (fun he => hne (Option.some.inj he))⟩
/-- What has come to be since a world, below its blocks. -/
structure Since (w0 w : World) : Prop where mk :: (out : Below w0.heap.size w0 w)
theorem Since.refl (w : World) : Since w w := ⟨Below.refl _ _⟩
theorem Since.below {w0 w w1 : World} (h : Since w0 w) (hb : Below w.heap.size w w1) : Since w0 w1 := ⟨h.out.trans (hb.mono h.out.size)⟩
theorem Since.grown {w0 w w1 : World} {g : Nat} (h : Since w0 w) (hg : w.grownBy w1 (some g)) (hbg : w0.heap.size ≤ g) : Since w0 w1 := ⟨h.out.trans ⟨hg.os, hg.tape, hg.output, hg.size, fun k hk =>
  hg.block k (Nat.lt_of_lt_of_le hk h.out.size) (fun he => by injection he with he; omega)⟩⟩
theorem Since.le {w0 w : World} (h : Since w0 w) : w0.heap.size ≤ w.heap.size := h.out.size
theorem ne_new {w : World} {g k : Nat} {t : TypeId} {l : List Value} (h : Blk w g t l) (hk : k = w.heap.size) : k ≠ g := by have := h.lt; omega
theorem ge_new {w0 w : World} {k : Nat} (h : Since w0 w) (hk : k = w.heap.size) : w0.heap.size ≤ k := by have := h.le; omega

/-- What has come to be since a world, but for the block g, which may have turned. -/
structure Turned (g : Nat) (w0 w : World) : Prop where mk :: (out : w0.grownBy w (some g))
theorem Turned.refl (g : Nat) (w : World) : Turned g w w := ⟨⟨rfl, rfl, rfl, Nat.le_refl _, fun _ _ _ => rfl⟩⟩
theorem Turned.le {g : Nat} {w0 w : World} (h : Turned g w0 w) : w0.heap.size ≤ w.heap.size := h.out.size
theorem Turned.below {g : Nat} {w0 w w1 : World} (h : Turned g w0 w) (hb : Below w.heap.size w w1) : Turned g w0 w1 := ⟨⟨hb.os.trans h.out.os, hb.tape.trans h.out.tape, hb.output.trans h.out.output, Nat.le_trans h.out.size hb.size, fun k hk hr => (hb.block k (Nat.lt_of_lt_of_le hk h.out.size)).trans (h.out.block k hk hr)⟩⟩
theorem Turned.same {g : Nat} {w0 w w1 : World} (h : Turned g w0 w) (hg : w.grownBy w1 (some g)) : Turned g w0 w1 := ⟨⟨hg.os.trans h.out.os, hg.tape.trans h.out.tape, hg.output.trans h.out.output, Nat.le_trans h.out.size hg.size, fun k hk hr => (hg.block k (Nat.lt_of_lt_of_le hk h.out.size) hr).trans (h.out.block k hk hr)⟩⟩
theorem Turned.grown {g k : Nat} {w0 w w1 : World} (h : Turned g w0 w) (hg : w.grownBy w1 (some k)) (hbk : w0.heap.size ≤ k) : Turned g w0 w1 := ⟨⟨hg.os.trans h.out.os, hg.tape.trans h.out.tape, hg.output.trans h.out.output, Nat.le_trans h.out.size hg.size, fun j hj hr => (hg.block j (Nat.lt_of_lt_of_le hj h.out.size) (fun he => by injection he with he; omega)).trans (h.out.block j hj hr)⟩⟩
theorem Turned.ge {g : Nat} {w0 w : World} {k : Nat} (h : Turned g w0 w) (hk : k = w.heap.size) : w0.heap.size ≤ k := by have := h.le; omega

theorem Blk.set {w : World} {g : Nat} {t : TypeId} {l l' : List Value} (h : Blk w g t l) (i : Nat) (u : Value) (e : l.set i u = l') : Blk (w.setCell ⟨g, i, none⟩ u) g t l' := ⟨by
  have h1 := blk_set h.out i u
  rw [h1, ← e]
  simp⟩
theorem Blk.setFar {w : World} {g k i : Nat} {t : TypeId} {l : List Value} {u : Value} (h : Blk w g t l) (hne : g ≠ k) : Blk (w.setCell ⟨k, i, none⟩ u) g t l := ⟨blk_far h.out hne u⟩
theorem Blk.drewN {w : World} {g : Nat} {t : TypeId} {l : List Value} (h : Blk w g t l) (n : Nat) : Blk (w.drewN n) g t l := ⟨h.out⟩
theorem Blk.drew {w : World} {g : Nat} {t : TypeId} {l : List Value} (h : Blk w g t l) : Blk w.drew g t l := ⟨h.out⟩
theorem Since.set {w0 w : World} {g i : Nat} {u : Value} (h : Since w0 w) (hg : w0.heap.size ≤ g) : Since w0 (w.setCell ⟨g, i, none⟩ u) := ⟨h.out.setCell hg u⟩
theorem Since.drewN {w0 w : World} (h : Since w0 w) (n : Nat) : Since w0 (w.drewN n) := ⟨pw_below_drewN h.out n⟩
theorem Since.drew {w0 w : World} (h : Since w0 w) : Since w0 w.drew := ⟨below_drew1 h.out⟩
theorem Turned.set {w0 w : World} {g i : Nat} {u : Value} (h : Turned g w0 w) : Turned g w0 (w.setCell ⟨g, i, none⟩ u) := ⟨⟨h.out.os, h.out.tape, h.out.output, by have := h.out.size; simpa [World.setCell] using this, fun k hk hr => (Below.heap_setCell w ⟨g, i, none⟩ u k (fun he => hr (congrArg some he))).trans (h.out.block k hk hr)⟩⟩
theorem Turned.setOwn {w0 w : World} {g k i : Nat} {u : Value} (h : Turned g w0 w) (hk : w0.heap.size ≤ k) : Turned g w0 (w.setCell ⟨k, i, none⟩ u) := ⟨⟨h.out.os, h.out.tape, h.out.output, by have := h.out.size; simpa [World.setCell] using this, fun j hj hr => (Below.heap_setCell w ⟨k, i, none⟩ u j (fun he => by simp at he; omega)).trans (h.out.block j hj hr)⟩⟩
theorem Turned.drewN {w0 w : World} {g : Nat} (h : Turned g w0 w) (n : Nat) : Turned g w0 (w.drewN n) := ⟨⟨h.out.os, h.out.tape, h.out.output, h.out.size, h.out.block⟩⟩
theorem Turned.drew {w0 w : World} {g : Nat} (h : Turned g w0 w) : Turned g w0 w.drew := ⟨⟨h.out.os, h.out.tape, h.out.output, h.out.size, h.out.block⟩⟩
/-- A world gets a letter. -/
theorem letter {e : Exit} {F : Exit → Act → World → Prop} {a : Act} {W : World} (h : ∀ w1, w1 = W → F e a w1) : F e a W := h W rfl

section
variable {P : Program} {ops : Array Oper} {rest : List Oper} {o : Oper} {a : Act} {Q : Exit → Act → World → Prop} {W : World}
/-- A struct's memory is made. -/
theorem seg_new (hgd : o.guard = none) {N : Tmp} (_hd : o.dst = some N) (l : List Value) (t : TypeId)
    (hrun : (execOp a.eval o).run P W = .ok (.value (.pointer (some ⟨W.heap.size, 0, none⟩))) (W.alloc (.cells l.toArray t (0, 0))))
    (h : ∀ g, g = W.heap.size → ∀ w1, Blk w1 g t l → Below W.heap.size W w1 → wpList P ops Q rest (a.put o.dst (.pointer (some ⟨g, 0, none⟩))) w1) : wpList P ops Q (o :: rest) a W :=
  box_event hgd _hd hrun (fun g hg w1 h1 h2 => h g hg w1 ⟨h1⟩ h2)
theorem run_seg_load (w : World) {g off : Nat} {t ty : TypeId} {l seg : List Value} {d : TypeDesc} (hB : Blk w g t l) (hseg : (l.drop off).take seg.length = seg)
    (hu : P.underlying ty = some d) (hd : (match d with | .struct _ | .array _ _ => true | _ => false) = true) (hi : (P.info? ty).map (·.size) = some seg.length) :
    (loadVar ty ⟨g, off, none⟩).run P w = .ok (.agg seg.toArray) w := by
  have hl := run_loadCells_list (P := P) (w := w) ⟨g, off, none⟩ seg (fun j v hv => by
      have hadd : (⟨g, off, none⟩ : Addr).add j = ⟨g, off + j, none⟩ := by unfold Addr.add; split <;> simp_all
      rw [hadd, hB.cell]
      rw [← hseg, List.getElem?_take] at hv
      split at hv
      · rw [List.getElem?_drop] at hv
        exact hv
      · cases hv)
  obtain ⟨i, hi, hs⟩ := Option.map_eq_some_iff.1 hi
  have hagg : (isAgg ty).run P w = .ok true w := by
    unfold isAgg
    rw [Sem.run_bind, run_underlying hu w]
    cases d <;> simp_all
  simp [loadVar, Sem.run_bind, hagg, sizeOf, typeInfo, hi, hs, hl]
/-- A struct is read. -/
theorem seg_load (hgd : o.guard = none) {N : Tmp} (_hd : o.dst = some N) (ty : TypeId) (x : Operand) (ho : o.op = .load ty x) (g off : Nat) {t : TypeId} {l : List Value} (seg : List Value) {d : TypeDesc} (hx : a.eval x = .pointer (some ⟨g, off, none⟩)) (hB : Blk W g t l)
    (hseg : (l.drop off).take seg.length = seg) (hu : P.underlying ty = some d) (hd : (match d with | .struct _ | .array _ _ => true | _ => false) = true) (hi : (P.info? ty).map (·.size) = some seg.length)
    (h : wpList P ops Q rest (a.put o.dst (.agg seg.toArray)) W) : wpList P ops Q (o :: rest) a W := by
  refine wpList_plain hgd fun K hK => ?_
  unfold Oper.wp execOp
  simp only [ho, hx, Instr.loadAt, Instr.sureAddr, Sem.run_bind, Sem.run_pure, Result.andThen_ok, run_seg_load (P := P) W hB hseg hu hd hi]
  exact hK _ _ h
/-- Cells are written. -/
theorem seg_store (hgd : o.guard = none) (hN : o.dst = none) (ty : TypeId) (x y : Operand) (ho : o.op = .store ty x y) (g off : Nat) {t : TypeId} {l : List Value} (seg l' : List Value) (u : Value) (hx : a.eval x = .pointer (some ⟨g, off, none⟩)) (hy : a.eval y = u) (hu : u.cells.toList = seg)
    (hB : Blk W g t l) (hi : (P.info? ty).map (·.size) = some seg.length) (hfit : off + seg.length ≤ l.length) (h1 : seg.all (·.oneCell') = true) (hl : l.take off ++ seg ++ l.drop (off + seg.length) = l')
    (h : ∀ w1, Blk w1 g t l' → W.grownBy w1 (some g) → wpList P ops Q rest a w1) : wpList P ops Q (o :: rest) a W := by
  refine wpList_plain hgd fun K hK => ?_
  have hrun : (Instr.storeAt ty (.pointer (some ⟨g, off, none⟩)) u).run P W = .ok () (W.setCells g off seg) := run_store_run ty u seg hB.out hu hi (by simpa using hfit) (fun q hq => List.all_eq_true.1 h1 q hq)
  obtain ⟨cur', h3, h4, h5⟩ := setCells_row seg off W l.toArray hB.out (by simpa using hfit)
  obtain ⟨s1, s2, s3, s4⟩ := setCells_same g seg off W
  have hcur : cur' = l'.toArray := by
    apply Array.toList_inj.1
    rw [h5, ← hl]
  unfold Oper.wp execOp
  simp only [ho, hx, hy, Sem.run_bind, Sem.run_pure, Result.andThen_ok, hrun]
  show K (a.put o.dst undef) _
  rw [hN]
  refine hK _ _ (h _ ⟨by rw [← hcur]; exact h3⟩ ⟨s1, s2, s3, by rw [s4]; exact Nat.le_refl _, fun k _ hk => setCells_far _ _ k (fun he => hk (by rw [he]))⟩)
end
/-- Two results, of which the first one is a struct in memory. -/
theorem results_cell_tmp {P : Program} {fn : Func} {p q : Tmp} {ty : TypeId} (h : fn.results = #[.cell p ty, .tmp q]) (tmps : Array Value) (w : World) (g : Nat) (t : TypeId) (l : List Value) (d : TypeDesc) (v : Value)
    (hp : tmps.getD p undef = .pointer (some ⟨g, 0, none⟩)) (hq : tmps.getD q undef = v) (hg : Blk w g t l)
    (hu : P.underlying ty = some d) (hd : (match d with | .struct _ | .array _ _ => true | _ => false) = true) (hi : (P.info? ty).map (·.size) = some l.length) :
    (results fn tmps).run P w = .ok (.tuple #[.agg l.toArray, v]) w := by
  have hp' : tmps[p]?.getD undef = .pointer (some ⟨g, 0, none⟩) := by simpa using hp
  have hq' : tmps[q]?.getD undef = v := by simpa using hq
  have hr := run_seg_load (P := P) w (off := 0) hg (seg := l) (by simp) hu hd hi
  simp [results, h, hp', hq', asAddr, hr]
theorem results_cell1 {P : Program} {fn : Func} {p : Tmp} {ty : TypeId} (h : fn.results = #[.cell p ty]) (tmps : Array Value) (w : World) (g : Nat) (t : TypeId) (l : List Value) (d : TypeDesc)
    (hp : tmps.getD p undef = .pointer (some ⟨g, 0, none⟩)) (hg : Blk w g t l)
    (hu : P.underlying ty = some d) (hd : (match d with | .struct _ | .array _ _ => true | _ => false) = true) (hi : (P.info? ty).map (·.size) = some l.length) :
    (results fn tmps).run P w = .ok (.agg l.toArray) w :=
  results_cell_row h tmps w g t l.toArray (0, 0) d hp hg.out hu hd (by simpa using hi)
end Go.Proofs.Ytphakdfholkbdaa
