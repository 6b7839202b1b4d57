import Derived.RangeFuncBox
import Derived.RangeFuncLeaves
import Derived.Shelf.Abstract
import Derived.WalkKit
import Derived.OwnWalkIn
import Derived.TacticsInMore
import Derived.LoopNIn
import Derived.LoopIn
import Derived.DataElems
import Derived.Test.YtphakdfholkbdaaRegIn
import Derived.Test.YtphakdfholkbdaaRow
import Derived.Test.YtphakdfholkbdaaPFrax0
import Derived.Test.YtphakdfholkbdaaNum
import Derived.Outline
namespace Go.Proofs.Ytphakdfholkbdaa
open Go.Proofs.Ytphakdfholkbdaa.PFra Go.RowKit Go.Proofs.YtphakdfholkbdaaW.PrintWords Go.Proofs.YtphakdfholkbdaaW.PrintLast Go.Proofs.YtphakdfholkbdaaW.PrintMore
set_option maxRecDepth 100000
set_option maxHeartbeats 4000000
set_option linter.unusedVariables false
set_option linter.unusedSimpArgs false
/-- A row of bytes of one's own, since a world. -/
structure OW (w0 w : World) (v : Value) (l : List Int) : Prop where mk :: (out : Kd.R (Kd.int .u8) 5 w w0.heap.size (fun _ => True) v l)
theorem OW.below {w0 w w1 : World} {v : Value} {l : List Int} (h : OW w0 w v l) (hb : Below w.heap.size w w1) : OW w0 w1 v l := ⟨Kd.R_below h.out hb⟩
theorem OW.ne {w0 w : World} {v : Value} {l : List Int} {g t : Nat} {cs : List Value} (h : OW w0 w v l) (hB : Blk w g t cs) (ht : t ≠ 5) : some g ≠ v.ownBlock := Kd.R_ne h.out hB.out (fun e => ht e.symm)
theorem OW.set {w0 w : World} {v : Value} {l : List Int} {g t : Nat} {cs : List Value} (h : OW w0 w v l) (hB : Blk w g t cs) (ht : t ≠ 5) (j : Nat) (u : Value) : OW w0 (w.setCell ⟨g, j, none⟩ u) v l := ⟨Kd.R_set h.out hB.out (fun q hq e => by simp [Kd.int, Kd.scalar] at hq; exact ht (e ▸ hq)) j u⟩
theorem OW.grown {w0 w w1 : World} {v : Value} {l : List Int} {g t : Nat} {cs : List Value} (h : OW w0 w v l) (hB : Blk w g t cs) (ht : t ≠ 5) (hg : w.grownBy w1 (some g)) : OW w0 w1 v l := ⟨Kd.R_mono (Kd.R_grown (Kd.R_types h.out hB.out (fun q hq e => by simp [Kd.int, Kd.scalar] at hq; exact ht (e ▸ hq))) hg (fun k hk e => hk.2 (by injection e))) (fun _ hk => hk.1)⟩
theorem Blk.own {w0 w w1 : World} {v : Value} {l : List Int} {g t : Nat} {cs : List Value} (hB : Blk w g t cs) (h : OW w0 w v l) (ht : t ≠ 5) (hg : w.grownBy w1 v.ownBlock) : Blk w1 g t cs := ⟨blk_grown hB.out hg (h.ne hB ht)⟩
/-- What is no row of bytes lies as it lay, but for block g. -/
structure KO (g : Option Nat) (W W' : World) : Prop where
  size : W.heap.size ≤ W'.heap.size
  same : ∀ r o, W.heap[r]? = some o → (∀ cs, o ≠ .cells cs 5 (0, 0)) → some r ≠ g → W'.heap[r]? = some o
theorem KO.refl (g : Option Nat) (W : World) : KO g W W := ⟨Nat.le_refl _, fun _ _ h _ _ => h⟩
theorem KO.trans {g : Option Nat} {A B C : World} (h : KO g A B) (k : KO g B C) : KO g A C := ⟨Nat.le_trans h.size k.size, fun r o a b c => k.same r o (h.same r o a b c) b c⟩
theorem KO.any {g : Nat} {A B : World} (h : KO none A B) : KO (some g) A B := ⟨h.size, fun r o a b _ => h.same r o a b (by simp)⟩
theorem KO.below {W W' : World} (h : Below W.heap.size W W') : KO none W W' := ⟨h.size, fun r o a _ _ => by
  have hr : r < W.heap.size := (Array.getElem?_eq_some_iff.1 a).1
  rw [h.block r hr]; exact a⟩
theorem KO.own {w0 W W' : World} {v : Value} {l : List Int} (h : OW w0 W v l) (hg : W.grownBy W' v.ownBlock) : KO none W W' := ⟨hg.size, fun r o a b _ => by
  have hr : r < W.heap.size := (Array.getElem?_eq_some_iff.1 a).1
  rw [hg.block r hr (fun e => by
    obtain ⟨cs, hc⟩ := Kd.R_typed h.out r e.symm
    rw [hc] at a; exact b cs (Option.some.inj a).symm)]; exact a⟩
theorem KO.grown {W W' : World} {g : Nat} (hg : W.grownBy W' (some g)) : KO (some g) W W' := ⟨hg.size, fun r o a _ c => by
  have hr : r < W.heap.size := (Array.getElem?_eq_some_iff.1 a).1
  rw [hg.block r hr c]; exact a⟩
theorem KO.blk {g : Option Nat} {W W' : World} {g' t : Nat} {cs : List Value} (h : KO g W W') (hB : Blk W g' t cs) (ht : t ≠ 5) (hg : some g' ≠ g) : Blk W' g' t cs := ⟨h.same _ _ hB.out (fun c e => by simp only [Obj.cells.injEq] at e; exact ht e.2.1) hg⟩
/-- Memory is made for a literal row of numbers, they are told as bytes, the bytes are laid behind a row of one's own. -/
theorem chain3_ {ops : Array Oper} {Q : Exit → Act → World → Prop} {md : Region.Mode} {S : World → Prop} {ds : List Nat} {i1 i2 i3 fuel : Nat} {o1 o2 o3 : Oper} {N1 N2 N3 : Tmp} {l0 : Array Bool} {a : Act} {W w0 : World}
    (l1 l2 l3 : Array Bool) (h1 : ops[i1]? = some o1) (h2 : ops[i2]? = some o2) (h3 : ops[i3]? = some o3)
    (n1 : o1.dst = some N1) (n2 : o2.dst = some N2) (n3 : o3.dst = some N3)
    (g1 : o1.guard = none) (g2 : o2.guard = none) (g3 : o3.guard = none)
    (c1 : readyB md ops l0 l1 i1 = true) (c2 : readyB md ops l1 l2 i2 = true) (c3 : readyB md ops l2 l3 i3 = true)
    (d1 : i1 ∉ ds) (d2 : i2 ∉ ds) (d3 : i3 ∉ ds)
    (xs bs l : List Int) (v : Value) (s : Operand) (fn : Nat) {f24 : Func} (hf : Try.prog.funcs[fn]? = some f24) (hfn : (f24.name == "runtime.NumGoroutine") = false) (hfb : f24.body.isSome = true)
    (r1 : (execOp a.eval o1).run Try.prog W = .ok (.value (.slice (some ⟨W.heap.size, 0, none⟩) xs.length xs.length)) (W.alloc (.cells (xs.map (Value.int .u64)).toArray 23)))
    (r2 : o2.op = .call { callee := .value (.func fn), args := #[.tmp N1], argTypes := #[62] })
    (r3 : o3.op = .call { callee := .builtin .append, args := #[s, .tmp N2], argTypes := #[24, 24] })
    (e1 : ∀ x, (a.put (some N1) x).eval (.tmp N1) = x) (e2 : ∀ x y, ((a.put (some N1) x).put (some N2) y).eval (.tmp N2) = y) (e3 : ∀ x y, ((a.put (some N1) x).put (some N2) y).eval s = v)
    (hx : xs.length ≤ 1000) (hlen : l.length + bs.length ≤ 140737488355328)
    (hC : ∀ (A : Option Addr) (c : Nat) (W : World), Kd.C (Kd.int .u64) W A xs.length xs → xs.length ≤ c → Calls Try.prog fn #[.slice A xs.length c] W fun e w' => ∃ v2, e = .returned v2 ∧ Kd.R (Kd.int .u8) 5 w' W.heap.size (fun _ => True) v2 bs ∧ Below W.heap.size W w')
    (HO : OW w0 W v l) (HS : Since w0 W)
    (hS : ∀ w', KO none W w' → S w')
    (h : ∀ x y v3 w3, OW w0 w3 v3 (l ++ bs) → KO none W w3 → Since w0 w3 → S w3 → wpAnyLast Try.prog md ops Q S ds fuel l3 (((a.put (some N1) x).put (some N2) y).put (some N3) v3) w3) :
    wpAnyLast Try.prog md ops Q S ds (fuel + 3) l0 a W := by
  obtain ⟨_, p1, t1, z1, f1, _⟩ := o1
  obtain ⟨_, p2, t2, z2, f2, _⟩ := o2
  obtain ⟨_, p3, t3, z3, f3, _⟩ := o3
  simp only at n1 n2 n3 g1 g2 g3 r2 r3
  subst n1; subst n2; subst n3; subst g1; subst g2; subst g3; subst r2; subst r3
  refine one_ l1 h1 rfl c1 d1 (fun K1 hK1 => ?_)
  refine Kd.R_lit_step (Kd.int .u64) (w0 := W) W.heap.size 23 rfl rfl (xs := xs) (inner := xs.map (Value.int .u64)) (ok := fun _ => True) (okp := fun _ => True) r1 (Kd.reps_scalar xs) (fun _ hk => hk) trivial (Below.refl _ _) (Nat.le_refl _) (by omega) ?_
  intro v1 w1 hR1 hb1 hgr1 _
  obtain ⟨A1, cc1, rfl⟩ := Kd.R_slice hR1
  obtain ⟨_, hcc1, hC1⟩ := Kd.R_reads' hR1
  refine hK1.out _ _ (hS _ (KO.below hb1)) (fun _ => ?_)
  clear hK1 K1
  have HO1 := HO.below hb1
  have HS1 := HS.below hb1
  refine one_ l2 h2 rfl c2 d2 (fun K2 hK2 => ?_)
  refine goes_ hf hfn hfb #[.slice A1 xs.length cc1] rfl rfl rfl (by simp only [List.map_toArray, List.map_cons, List.map_nil, e1]) ?_
  refine (hC A1 cc1 w1 hC1 hcc1).mono ?_
  rintro e w2 ⟨v2, rfl, hR2, hb2⟩
  refine ⟨_, rfl, ?_⟩
  obtain ⟨A2, cc2, rfl⟩ := Kd.R_slice hR2
  obtain ⟨_, hcc2, hC2⟩ := Kd.R_reads' hR2
  have HO2 := HO1.below hb2
  have HS2 := HS1.below hb2
  refine hK2.out _ _ (hS _ ((KO.below hb1).trans (KO.below hb2))) (fun _ => ?_)
  clear hK2 K2
  refine one_ l3 h3 rfl c3 d3 (fun K3 hK3 => ?_)
  refine Kd.R_append_rows_step (Kd.int .u8) (w0 := w0) w0.heap.size rfl s (.tmp N2) 24 5 (.int .u8 0) 1 rfl Try.underlying24 info5 rfl (by decide) (by omega) v l bs _ _ _ (fun _ => True) (fun _ => False) (e3 _ _) (e2 _ _) HO2.out hC2 (fun _ _ hh => hh) (fun _ hh => hh.elim) (fun _ _ => trivial) HS2.out HS2.le (by omega) ?_
  intro v3 w3 hR3 hb3 hgr3 _
  have hk3 : KO none W w3 := ((KO.below hb1).trans (KO.below hb2)).trans (KO.own HO2 hgr3)
  exact hK3.out _ _ (hS _ hk3) (fun hs => h _ _ v3 w3 ⟨hR3⟩ hk3 ⟨hb3⟩ hs)
/-- The row's variable is written. -/
theorem store_ {ops : Array Oper} {Q : Exit → Act → World → Prop} {md : Region.Mode} {S : World → Prop} {ds : List Nat} {i4 fuel : Nat} {o4 : Oper} {l0 : Array Bool} {a : Act} {W w0 : World} (l4 : Array Bool) (h4 : ops[i4]? = some o4) (n4 : o4.dst = none) (g4 : o4.guard = none) (c4 : readyB md ops l0 l4 i4 = true) (d4 : i4 ∈ ds)
    (p y : Operand) (g : Nat) (u v : Value) (l : List Int) (r4 : o4.op = .store 24 p y) (hp : a.eval p = .pointer (some ⟨g, 0, none⟩)) (hy : a.eval y = v) (HO : OW w0 W v l) (HS : Since w0 W) (HB : Blk W g 24 [u]) (hge : w0.heap.size ≤ g)
    (h : ∀ w4, OW w0 w4 v l → Blk w4 g 24 [v] → KO (some g) W w4 → Since w0 w4 → wpAnyLast Try.prog md ops Q S ds fuel l4 a w4) : wpAnyLast Try.prog md ops Q S ds (fuel + 1) l0 a W := by
  obtain ⟨_, p4, t4, z4, f4, _⟩ := o4
  simp only at n4 g4 r4
  subst n4; subst g4; subst r4
  refine last_ l4 h4 rfl c4 d4 (fun K4 hK4 => ?_)
  obtain ⟨A3, cc3, rfl⟩ := Kd.R_slice HO.out
  refine skip_seg rfl rfl 24 p y rfl g 0 [.slice A3 l.length cc3] [.slice A3 l.length cc3] (.slice A3 l.length cc3) hp hy rfl HB (by kernel_rfl) (by simp) rfl rfl ?_
  intro w4 hB4 hgr4
  exact hK4.out _ _ (h w4 (HO.grown HB (by decide) hgr4) hB4 (KO.grown hgr4) (Since.grown HS hgr4 hge))
/-- Bytes that came in are laid behind a row of one's own. -/
theorem appD_ {ops : Array Oper} {Q : Exit → Act → World → Prop} {md : Region.Mode} {S : World → Prop} {ds : List Nat} {i3 fuel : Nat} {o3 : Oper} {N3 : Tmp} {l0 : Array Bool} {a : Act} {W w0 : World} (l3 : Array Bool) (h3 : ops[i3]? = some o3) (n3 : o3.dst = some N3) (g3 : o3.guard = none) (c3 : readyB md ops l0 l3 i3 = true) (d3 : i3 ∉ ds)
    (s x : Operand) (v : Value) (l bs : List Int) (A : Option Addr) (c : Nat) (r3 : o3.op = .call { callee := .builtin .append, args := #[s, x], argTypes := #[24, 24] }) (e1 : a.eval s = v) (e2 : a.eval x = .slice A bs.length c) (hlen : l.length + bs.length ≤ 140737488355328)
    (HO : OW w0 W v l) (HS : Since w0 W) (hC : Kd.C (Kd.int .u8) W A bs.length bs) (hS : ∀ w', KO none W w' → S w')
    (h : ∀ v3 w3, OW w0 w3 v3 (l ++ bs) → KO none W w3 → Since w0 w3 → S w3 → wpAnyLast Try.prog md ops Q S ds fuel l3 (a.put (some N3) v3) w3) : wpAnyLast Try.prog md ops Q S ds (fuel + 1) l0 a W := by
  obtain ⟨_, p3, t3, z3, f3, _⟩ := o3
  simp only at n3 g3 r3
  subst n3; subst g3; subst r3
  refine one_ l3 h3 rfl c3 d3 (fun K3 hK3 => ?_)
  refine Kd.R_append_rows_step (Kd.int .u8) (w0 := w0) w0.heap.size rfl s x 24 5 (.int .u8 0) 1 rfl Try.underlying24 info5 rfl (by decide) (by omega) v l bs _ _ _ (fun _ => True) (fun _ => False) e1 e2 HO.out hC (fun _ _ hh => hh) (fun _ hh => hh.elim) (fun _ _ => trivial) HS.out HS.le (by omega) ?_
  intro v3 w3 hR3 hb3 hgr3 _
  exact hK3.out _ _ (hS _ (KO.own HO hgr3)) (fun hs => h v3 w3 ⟨hR3⟩ (KO.own HO hgr3) ⟨hb3⟩ hs)
attribute [local go_sem] Oper.semAt_some
theorem run_two {P : Program} {ty : TypeId} {ad : Addr} {u0 u1 : Value} {w : World} {d : TypeDesc} (h0 : w.cell? ad = some u0) (h1 : w.cell? (ad.add 1) = some u1) (hu : P.underlying ty = some d) (hd : (match d with | .struct _ | .array _ _ => true | _ => false) = true) (hi : (P.info? ty).map (·.size) = some 2) :
    (loadVar ty ad).run P w = .ok (.agg #[u0, u1]) w := by
  have hl := run_loadCells_list (P := P) (w := w) ad [u0, u1] (fun j v hv => by
    rcases j with _ | _ | j
    · simp at hv; subst hv; simpa [Addr.add] using h0
    · simp at hv; subst hv; exact h1
    · simp at hv)
  obtain ⟨i, hi, hs⟩ := Option.map_eq_some_iff.1 hi
  have hagg : (isAgg ty).run P w = .ok true w := by
    unfold isAgg
    rw [Sem.run_bind, run_underlying hu w]
    cases d <;> simp_all
  have hl' : Sem.run P (loadCells ad 2) w = Result.ok #[u0, u1] w := hl
  simp [loadVar, Sem.run_bind, hagg, sizeOf, typeInfo, hi, hs, hl']
theorem load_in {P : Program} {l0 n : Nat} {F : Fence} (hF : F = Fence.wide ∨ F = Fence.wide.inRound l0) {ops : Array Oper} {rest : List Oper} {o : Oper} {a : Act} {Q : Exit → Act → World → Prop} {W : World} (hgd : o.guard = none) (ty : TypeId) (x : Operand) (ho : o.op = .load ty x) (ad : Addr) (v : Value) (hx : a.eval x = .pointer (some ad)) (hrun : (loadVar ty ad).run P W = .ok v W)
    (h : wpListIn F n P ops Q rest (a.put o.dst v) W) : wpListIn F n P ops Q (o :: rest) a W := by
  refine wpListIn_plain hgd fun K hK => ?_
  refine ⟨fun f _ => by rcases hF with rfl | rfl <;> trivial, ?_⟩
  rw [Oper.semAt_eq _ _ _ (by intro c hc; rw [ho] at hc; cases hc)]
  unfold execOp
  simp only [ho, hx, Instr.loadAt, Instr.sureAddr, Sem.run_bind, Sem.run_pure, Result.andThen_ok, hrun]
  exact hK _ _ h
def uptoR (n k : Nat) : List Nat := (List.range k).map fun j => n - 1 - j
theorem uptoR_succ (n k : Nat) : uptoR n (k + 1) = uptoR n k ++ [n - 1 - k] := by simp [uptoR, List.range_succ]
theorem uptoR_len (n k : Nat) : (uptoR n k).length = k := by simp [uptoR]
def spV (l : List S47) (i : Nat) : Value := .agg #[.int .u64 (l.getD i z47).f0, .int .u64 (l.getD i z47).f1]
theorem add_block (ad : Addr) (k : Nat) : (ad.add k).block = ad.block := by unfold Addr.add; split <;> rfl
/-- What a round keeps: what lay below n₀, and the row that the iterator has caught. -/
def BKeep (n₀ Bs : Nat) (W W' : World) : Prop := Below n₀ W W' ∧ ∀ u, W.cell? ⟨Bs, 0, none⟩ = some u → W'.cell? ⟨Bs, 0, none⟩ = some u
theorem BKeep.trans {n₀ Bs : Nat} {A B C : World} (h : BKeep n₀ Bs A B) (k : BKeep n₀ Bs B C) : BKeep n₀ Bs A C := ⟨h.1.trans k.1, fun u hu => k.2 u (h.2 u hu)⟩
theorem BKeep.turn {n₀ Bs : Nat} {w : World} (hn : n₀ ≤ w.heap.size) (W : World) (l : Nat) (o o' : Obj) (hl : w.heap.size ≤ l) (h : W.heap[l]? = some o) (hc : o.isCells = false) (hw : o.isWalk = false) : BKeep n₀ Bs W (W.putObj l o') :=
  ⟨belowK_b hn W l o o' hl h hc hw, fun u hu => cell_kept hu (grownBy_putObj' W l o') (fun r e => by cases e; exact ⟨o, h, hc⟩)⟩
theorem backward_in (n l Bs n₀ cap : Nat) (ad : Addr) (xs : List S47) (hreach : xs.length < 1000000) (hb : ad.block < n₀) (J Jx : List (Fin xs.length) → World → Prop)
    (hY : ∀ pre x W, J pre W → pre.length < xs.length → YieldAt Fence.wide (n - 1) Try.prog l #[.int .i64 (x.val : Nat), spV xs x.val] W fun e W' =>
      (e = .returned (.bool true) ∧ J (pre ++ [x]) W' ∧ BKeep n₀ Bs W W') ∨ (e = .returned (.bool false) ∧ Jx (pre ++ [x]) W'))
    (W : World) (hBs : W.cell? ⟨Bs, 0, none⟩ = some (.slice (some ad) xs.length cap))
    (hc0 : ∀ j, j < xs.length → W.cell? (ad.add (j * 2)) = some (.int .u64 (xs.getD j z47).f0)) (hc1 : ∀ j, j < xs.length → W.cell? ((ad.add (j * 2)).add 1) = some (.int .u64 (xs.getD j z47).f1)) (h0 : J [] W) :
    CallsIn Fence.wide n Try.prog 38 #[.func (.yield l) #[] #[], .pointer (some ⟨Bs, 0, none⟩)] W fun e W' => (∃ v, e = .returned v) ∧
      ((∃ ys : List (Fin xs.length), ys.map Fin.val = uptoR xs.length xs.length ∧ J ys W') ∨ (∃ pre : List (Fin xs.length), (∃ k, k ≤ xs.length ∧ pre.map Fin.val = uptoR xs.length k) ∧ Jx pre W')) := by
  have hu := Try.underlying47
  refine callsIn_of_wp Try.func38 rfl trivial ?_ rfl
  simp only [Try.ntmps38, List.size_toArray, List.length_cons, List.length_nil, Nat.reduceAdd, Nat.reduceSub, Array.replicate_succ, Array.replicate_zero, List.push_toArray, List.append_toArray, List.nil_append, List.cons_append]
  gi_wp2
  gi_loopw [3] (fun i wr => ∃ (k : Nat) (pre : List (Fin xs.length)), k ≤ xs.length ∧ pre.map Fin.val = uptoR xs.length k ∧ i = .int .i64 ((xs.length : Int) - 1 - k) ∧ J pre wr ∧ BKeep n₀ Bs W wr)
    (fun i _ => (intOf i + 1).toNat)
  case atStart => exact ⟨0, [], Nat.zero_le _, rfl, by simp, h0, Below.refl _ _, fun _ hu => hu⟩
  case round =>
    obtain ⟨k, pre, hk, hpre, rfl, hJs, hnx⟩ := hrel
    have hpl : pre.length = k := by have := congrArg List.length hpre; rw [List.length_map, uptoR_len] at this; exact this
    by_cases hlt : k < xs.length
    · obtain ⟨q, hq⟩ : ∃ q : Nat, (xs.length : Int) - 1 - k = q := ⟨xs.length - 1 - k, by omega⟩
      have hq' : xs.length - 1 - k = q := by omega
      have hql : q < xs.length := by omega
      have kB := hnx.2 _ hBs
      have k0 := (hnx.1.cell (p := ad.add (q * 2)) (by rw [add_block]; exact hb)).trans (hc0 q hql)
      have k1 := (hnx.1.cell (p := (ad.add (q * 2)).add 1) (by rw [add_block, add_block]; exact hb)).trans (hc1 q hql)
      obtain ⟨fn, tmps, assign, body, hy, hR⟩ := hY pre ⟨q, hql⟩ wr hJs (by rw [hpl]; exact hlt)
      unfold spV at hy
      dsimp only at hy
      rw [hq]
      have HJ := Aside0.mk hJs
      have HN := Aside0.mk hnx
      have HP := Aside0.mk hpre
      have hup : uptoR xs.length (k + 1) = (pre ++ [(⟨q, hql⟩ : Fin xs.length)]).map Fin.val := by rw [uptoR_succ, List.map_append, hpre, hq']; rfl
      have HU := Aside0.mk hup
      clear hq hJs hnx hpre hup hpl
      have hrun := run_two (P := Try.prog) (ty := 47) (ad := ad.add (q * 2)) k0 k1 hu rfl (by kernel_rfl)
      generalize (xs.getD q z47).f0 = f0 at hy hrun k0
      generalize (xs.getD q z47).f1 = f1 at hy hrun k1
      gi_wp2_with (refine load_in (l0 := 0) (.inl rfl) rfl 47 (.tmp 15) rfl _ _ rfl hrun ?_)
      refine ⟨fun hd => by simp [Fence.wide] at hd, hR.mono ?_⟩
      rintro e W3 (⟨rfl, hJ3, hk3⟩ | ⟨rfl, hJx3⟩)
      · gi_wp2
        go_roundw
        case rel => exact ⟨k + 1, pre ++ [⟨q, hql⟩], by omega, HU.out.symm, by simp <;> omega, hJ3, HN.out.trans hk3⟩
        case measure => (simp [intOf]; try omega)
      · gi_wp2
        refine bodyPost_ret (results_none rfl _ _ _) rfl ?_
        exact ⟨⟨_, rfl⟩, .inr ⟨_, ⟨k + 1, by omega, HU.out.symm⟩, hJx3⟩⟩
    · obtain rfl : k = xs.length := by omega
      have hm : (xs.length : Int) - 1 - xs.length = -1 := by omega
      rw [hm]
      have HP := Aside0.mk hpre
      have HJ := Aside0.mk hJs
      clear hm hpre hpl hJs
      gi_wp2
      go_end0
      exact ⟨⟨_, rfl⟩, .inl ⟨_, HP.out, HJ.out⟩⟩
theorem backward_stops (n Bs n₀ cap : Nat) (ad : Addr) (xs : List S47) (hreach : xs.length < 1000000) (w : World) (hn : n₀ ≤ w.heap.size) (hb : ad.block < n₀) (hBn : Bs < w.heap.size)
    (hBs : w.cell? ⟨Bs, 0, none⟩ = some (.slice (some ad) xs.length cap))
    (hc0 : ∀ j, j < xs.length → w.cell? (ad.add (j * 2)) = some (.int .u64 (xs.getD j z47).f0)) (hc1 : ∀ j, j < xs.length → w.cell? ((ad.add (j * 2)).add 1) = some (.int .u64 (xs.getD j z47).f1)) :
    SeqStopsK Fence.wide n Try.prog 38 #[.pointer (some ⟨Bs, 0, none⟩)] (fun x : Fin xs.length => #[.int .i64 (x.val : Nat), spV xs x.val]) (BKeep n₀ Bs) (fun ys => ys.map Fin.val = uptoR xs.length xs.length) (fun pre => ∃ k, k ≤ xs.length ∧ pre.map Fin.val = uptoR xs.length k) xs.length w := by
  intro l J Jx W hW hJ hJx hY h0
  have hlt := fun {x : Nat} (h : x < n₀) => Nat.lt_of_lt_of_le h hn
  refine (backward_in n l Bs n₀ cap ad xs hreach hb J Jx hY W ((hW.cell (p := ⟨Bs, 0, none⟩) hBn).trans hBs) (fun j hj => (hW.cell (p := ad.add (j * 2)) (by rw [add_block]; exact hlt hb)).trans (hc0 j hj)) (fun j hj => (hW.cell (p := (ad.add (j * 2)).add 1) (by rw [add_block, add_block]; exact hlt hb)).trans (hc1 j hj)) h0).mono ?_
  rintro e W' ⟨hv, h⟩
  exact ⟨hv, h⟩
theorem backwardC (A : Option Addr) (n c : Nat) (w : World) : Calls Try.prog 25 #[.slice A n c] w fun e w' => ∃ g, e = .returned (.func (.func 38) #[] #[.pointer (some ⟨g, 0, none⟩)]) ∧ Blk w' g 25 [.slice A n c] ∧ w.heap.size ≤ g ∧ Below w.heap.size w w' := by
  have hmf : ∀ (fn : Fn) (first cap : Array Value) (w : World), (Instr.makeFunc fn first cap).run Try.prog w = .ok (.func fn first cap) w := fun _ _ _ _ => rfl
  go_enter Try.func25, Try.ntmps25
  go_wp2
  go_ret
  exact ⟨_, rfl, ⟨blk_new w (.cells #[.slice A n c] 25)⟩, Nat.le_refl _, below_alloc (Below.refl _ _) _⟩
theorem named_frame {P : Program} {c : Code} {Q : Exit → Act → World → Prop} {w : World} {T : Array Value} {D : List Deferred} (h : ∀ T', T' = T → c.wp P Q ⟨T', D⟩ w) : c.wp P Q ⟨T, D⟩ w := h T rfl
/-- What a body with a mark on its deferred calls must achieve: it ends, or returns. -/
def postM (P : Program) (fn : Func) (R : Ending → World → Prop) : Exit → Act → World → Prop
  | .normal, a, w | .ret, a, w => LeavesInM Fence.wide 9 P fn a.tmps R a.defers .returning w
  | _, _, _ => False
theorem calls_of_wp_marks {P : Program} {f : FuncId} {fn : Func} {c : Code} {args : Array Value} {w : World} {R : Ending → World → Prop} (hf : P.funcs[f]? = some fn) (hb : fn.body = some c)
    (h : c.wp P (postM P fn R) { tmps := args ++ Array.replicate (fn.ntmps - args.size) undef, defers := [] } w) : Calls P f args w R :=
  callsIn_wide.1 (callsIn_of_wp_marks hf hb trivial (wpIn_wide.2 (wp_mono h (fun e a w q => by cases e <;> first | exact q | exact q.elim))) rfl)
/-- The block of a loop's deferred calls lies as it was laid. -/
structure DF (w : World) (D : Nat) : Prop where mk :: (out : w.heap[D]? = some (.deferred (some [])))
theorem DF.ko0 {W W' : World} {D : Nat} (h : DF W D) (k : KO none W W') : DF W' D := ⟨k.same _ _ h.out (fun _ e => by cases e) (by simp)⟩
theorem DF.ne {W : World} {D g t : Nat} {cs : List Value} (h : DF W D) (hB : Blk W g t cs) : D ≠ g := by
  rintro rfl
  have := h.out.symm.trans hB.out
  cases this
theorem DF.ko {W W' : World} {D g t : Nat} {cs : List Value} (h : DF W D) (hB : Blk W g t cs) (k : KO (some g) W W') : DF W' D := ⟨k.same _ _ h.out (fun _ e => by cases e) (fun e => h.ne hB (by injection e))⟩
theorem DF.below {W W' : World} {D : Nat} (h : DF W D) (hb : Below W.heap.size W W') : DF W' D := h.ko0 (KO.below hb)
theorem OW.put {w0 W : World} {v : Value} {l : List Int} {D : Nat} (h : OW w0 W v l) (hD : DF W D) : OW w0 (W.putObj D (.deferred none)) v l :=
  ⟨Kd.R_mono (Kd.R_move (Kd.R_bound h.out) (fun k hk => (grownBy_putObj' W D (.deferred none)).block k hk.2.2.1 (fun e => by
    obtain ⟨q, _, cells, hc⟩ := hk.2.2.2
    have e' : D = k := by injection e with e; exact e.symm
    subst e'
    have := hD.out.symm.trans hc
    cases this))) (fun _ hk => hk.1)⟩
theorem leave_mark {P : Program} {fn : Func} {R : Ending → World → Prop} {T : Array Value} {D : Nat} {W : World} {v : Value} (hD : DF W D) (hres : (results fn T).run P (W.putObj D (.deferred none)) = .ok v (W.putObj D (.deferred none))) (hR : R (.returned v) (W.putObj D (.deferred none))) :
    postM P fn R .ret ⟨T, [{ target := .collected D, args := #[] }]⟩ W := ⟨by simp, .inl ⟨D, _, rfl, run_takeDeferred hD.out, ⟨v, hres, hR⟩⟩⟩
theorem Since.put {w0 W : World} {D : Nat} (h : Since w0 W) (hD : w0.heap.size ≤ D) : Since w0 (W.putObj D (.deferred none)) := Since.grown h (grownBy_putObj' W D (.deferred none)) hD
/-- A row of spans that is read, not empty. -/
theorem spans_at {w : World} {A : Option Addr} {l : List S47} (h : Kd.C k47 w A l.length l) (hn : 0 < l.length) : ∃ ad, A = some ad ∧ ∀ i, i < l.length → w.cell? (ad.add (i * 2)) = some (.int .u64 (l.getD i z47).f0) ∧ w.cell? ((ad.add (i * 2)).add 1) = some (.int .u64 (l.getD i z47).f1) := by
  obtain ⟨ad, _, rfl, _⟩ := Kd.C_get h z47 0 (by omega) (by omega)
  refine ⟨ad, rfl, fun i hi => ?_⟩
  obtain ⟨ad', c, e, _, hK, hc⟩ := Kd.C_get h z47 (i : Int) (by omega) (by omega)
  obtain rfl := Option.some.inj e
  obtain rfl := k47_open hK
  have h0 := hc 0 _ rfl
  have h1 := hc 1 _ rfl
  simp only [Int.toNat_natCast] at h0 h1
  exact ⟨h0, by rw [Addr.add_add]; exact h1⟩
/-- What is no cells lies as it lay. -/
structure KC (W W' : World) : Prop where
  size : W.heap.size ≤ W'.heap.size
  same : ∀ (r : Nat) (o : Obj), W.heap[r]? = some o → o.isCells = false → W'.heap[r]? = some o
theorem KC.refl (W : World) : KC W W := ⟨Nat.le_refl _, fun _ _ h _ => h⟩
theorem KC.trans {A B C : World} (h : KC A B) (k : KC B C) : KC A C := ⟨Nat.le_trans h.size k.size, fun r o a b => k.same r o (h.same r o a b) b⟩
theorem KC.below {W W' : World} (h : Below W.heap.size W W') : KC W W' := ⟨h.size, fun r o a _ => by
  have hr : r < W.heap.size := (Array.getElem?_eq_some_iff.1 a).1
  rw [h.block r hr]; exact a⟩
theorem KC.grown {W W' : World} {g t : Nat} {cs : List Value} (hB : Blk W g t cs) (hg : W.grownBy W' (some g)) : KC W W' := ⟨hg.size, fun r o a b => by
  have hr : r < W.heap.size := (Array.getElem?_eq_some_iff.1 a).1
  rw [hg.block r hr (fun e => by injection e with e; subst e; rw [hB.out] at a; cases a; cases b)]; exact a⟩
theorem KC.ko {W W' : World} {g t : Nat} {cs : List Value} (hB : Blk W g t cs) (h : KO (some g) W W') : KC W W' := ⟨h.size, fun r o a b => h.same r o a (fun c e => by subst e; cases b) (fun e => by injection e with e; subst e; rw [hB.out] at a; cases a; cases b)⟩
theorem KC.ko0 {W W' : World} (h : KO none W W') : KC W W' := ⟨h.size, fun r o a b => h.same r o a (fun c e => by subst e; cases b) (by simp)⟩
theorem KC.from {W W' : World} (h : KC W W') (B : Nat) : KeepsFrom B W W' := ⟨h.size, fun k o _ a b => h.same k o a b⟩
/-- Two worlds that have come of a third one are alike below it. -/
theorem below_of {w W W' : World} (h : Since w W) (h' : Since w W') (hs : W.heap.size ≤ W'.heap.size) : Below w.heap.size W W' :=
  ⟨h'.out.os.trans h.out.os.symm, h'.out.tape.trans h.out.tape.symm, h'.out.output.trans h.out.output.symm, hs, fun k hk => (h'.out.block k hk).trans (h.out.block k hk).symm⟩
/-- A turn of a block that is no cells. -/
def Turn (B : Nat) (W W' : World) (row : Option Nat) : Prop := W.grownBy W' row ∧ ∀ r, row = some r → B ≤ r ∧ ∃ o : Obj, W.heap[r]? = some o ∧ o.isCells = false
theorem Blk.turn {B : Nat} {W W' : World} {row : Option Nat} {g t : Nat} {cs : List Value} (h : Blk W g t cs) (k : Turn B W W' row) : Blk W' g t cs := ⟨(k.1.block g (blk_lt h.out) (fun e => by
  obtain ⟨_, o, ho, hc⟩ := k.2 g e.symm
  rw [h.out] at ho; cases ho; cases hc)).trans h.out⟩
theorem OW.turn {B : Nat} {w0 W W' : World} {row : Option Nat} {v : Value} {l : List Int} (h : OW w0 W v l) (k : Turn B W W' row) : OW w0 W' v l :=
  ⟨Kd.R_mono (Kd.R_move (Kd.R_bound h.out) (fun r hk => k.1.block r hk.2.2.1 (fun e => by
    obtain ⟨q, _, cells, hc⟩ := hk.2.2.2
    obtain ⟨_, o, ho, hcc⟩ := k.2 r e.symm
    rw [hc] at ho; cases ho; cases hcc))) (fun _ hk => hk.1)⟩
theorem Since.turn {w0 W W' : World} {B : Nat} {row : Option Nat} (h : Since w0 W) (k : Turn B W W' row) (hB : w0.heap.size ≤ B) : Since w0 W' := ⟨h.out.grown k.1 h.out.size (fun r e => Nat.le_trans hB (k.2 r e).1)⟩

end Go.Proofs.Ytphakdfholkbdaa
