import Derived.Outline
import Derived.Handy
import Derived.Recover
import Derived.WalkSmall
import Derived.Laws.Externs
import Derived.Laws.CopyOwn
import Derived.Lib.AppendZerosOnto
import Derived.Lib.Overlaps
import Derived.Deep.RegionLaw
import Derived.Test.YtphakdfholkbdaaPFrax0
import Derived.Test.YtphakdfholkbdaaNum
import Derived.Test.YtphakdfholkbdaaSeg
import Derived.Test.YtphakdfholkbdaaFraB
import Derived.Test.YtphakdfholkbdaaFrPa
import Derived.Test.YtphakdfholkbdaaPFrax5
namespace Go.Proofs.Ytphakdfholkbdaa
open Go.Proofs.Ytphakdfholkbdaa.PFra Go.RowKit Go.Proofs.YtphakdfholkbdaaW.PrintWords Go.Proofs.YtphakdfholkbdaaW.PrintLast Go.Proofs.YtphakdfholkbdaaW.PrintMore
set_option maxRecDepth 100000
set_option maxHeartbeats 4000000
set_option linter.unusedVariables false
set_option linter.unusedSimpArgs false
/-- Spans' cells, one behind the other. -/
def flat (l : List S47) : List Value := l.flatMap fun x => [.int .u64 x.f0, .int .u64 x.f1]
theorem flat_len (l : List S47) : (flat l).length = l.length * 2 := by induction l with
  | nil => rfl
  | cons x t ih => simp only [flat, List.flatMap_cons, List.length_append, List.length_cons] at ih ⊢; rw [ih]; simp; omega
theorem flat_one (l : List S47) : ∀ v ∈ flat l, v.oneCell' = true := by
  intro v hv
  simp only [flat, List.mem_flatMap] at hv
  obtain ⟨x, _, hx⟩ := hv
  simp at hx
  rcases hx with rfl | rfl <;> rfl
theorem reps_flat {w : World} {base : Nat} {ok : Nat → Prop} : ∀ {l : List S47} {cs : List Value}, Reps (k47.M w base ok) 2 l cs → cs = flat l
  | [], cs, h => List.eq_nil_of_length_eq_zero (by simpa using h.1)
  | x :: l, cs, h => by
    have h0 := k47_openM (h.2 0 x rfl)
    rw [Nat.zero_mul, List.drop_zero] at h0
    have ht : Reps (k47.M w base ok) 2 l (cs.drop 2) := ⟨by rw [List.length_drop, h.1, List.length_cons]; omega, fun j p hp => by
      have := h.2 (j + 1) p hp
      rwa [List.drop_drop, show 2 + j * 2 = (j + 1) * 2 by omega]⟩
    have e := reps_flat ht
    rw [← List.take_append_drop 2 cs, h0, e]
    rfl
theorem flat_reps (w : World) (base : Nat) (ok : Nat → Prop) : ∀ (l : List S47), Reps (k47.M w base ok) 2 l (flat l)
  | [] => Reps.none _ _
  | x :: l => ⟨flat_len _, fun j p hp => by
      cases j with
      | zero =>
        obtain rfl : x = p := by simpa using hp
        exact k47_mkM w base ok x
      | succ j =>
        have := (flat_reps w base ok l).2 j p (by simpa using hp)
        rw [show (j + 1) * 2 = 2 + j * 2 by omega, ← List.drop_drop]
        exact this⟩
/-- A row of spans of one's own. -/
structure SR (base : Nat) (w : World) (v : Value) (l : List S47) : Prop where mk :: (out : w.ownsRow base 47 2 v l.length (flat l))
theorem SR.of {w : World} {base : Nat} {ok : Nat → Prop} {v : Value} {l : List S47} (h : Kd.R k47 47 w base ok v l) : SR base w v l := by
  obtain ⟨_, inner, h1, h2⟩ := h
  obtain rfl := reps_flat h2
  exact ⟨h1⟩
theorem SR.to {w : World} {base : Nat} {v : Value} {l : List S47} (h : SR base w v l) : Kd.R k47 47 w base (fun _ => True) v l := ⟨fun _ _ => trivial, flat l, h.out, flat_reps w base _ l⟩
theorem SR.nil (base : Nat) (w : World) : SR base w (.slice none 0 0) [] := ⟨own_nil _ _ _ _⟩
theorem SR.below {base : Nat} {w w1 : World} {v : Value} {l : List S47} (h : SR base w v l) (hb : Below w.heap.size w w1) : SR base w1 v l := SR.of (Kd.R_below h.to hb)
theorem SR.lower {base base' : Nat} {w : World} {v : Value} {l : List S47} (h : SR base w v l) (hb : base' ≤ base) : SR base' w v l := SR.of (Kd.R_lower h.to hb)
theorem SR.grown {base : Nat} {w w1 : World} {v : Value} {l : List S47} {g t : Nat} {cs : List Value} (h : SR base w v l) (hB : Blk w g t cs) (ht : t ≠ 47) (hg : w.grownBy w1 (some g)) : SR base w1 v l :=
  ⟨own_move h.out (fun k hk => by
    obtain ⟨cells, hc⟩ := own_typed h.out k hk
    refine hg.block k (blk_lt hc) (fun e => ?_)
    injection e with e
    subst e
    have := hB.out.symm.trans hc
    injection this with this
    injection this with _ this _
    exact ht this)⟩
/-- The row's block. -/
theorem SR.open {base : Nat} {w : World} {v : Value} {l : List S47} (h : SR base w v l) (hp : 0 < l.length) : ∃ g c rest, v = .slice (some ⟨g, 0, none⟩) l.length c ∧ base ≤ g ∧ Blk w g 47 (flat l ++ rest) ∧ l.length ≤ c ∧ c ≤ 9223372036854775807 ∧ (flat l ++ rest).length = c * 2 := by
  rcases h.out.2 with ⟨_, h2⟩ | ⟨g, c, cur, rfl, hg, hh, hn, hm, hs, ht⟩
  · omega
  · refine ⟨g, c, cur.toList.drop (l.length * 2), rfl, hg, ⟨?_⟩, hn, hm, ?_⟩
    · rw [hh]
      congr 2
      rw [← ht, List.take_append_drop]
    · rw [← ht, List.take_append_drop]
      simpa using hs
theorem SR.shut {base : Nat} {w : World} {l : List S47} {g c : Nat} {rest : List Value} (hg : base ≤ g) (hB : Blk w g 47 (flat l ++ rest)) (hn : l.length ≤ c) (hc : c ≤ 9223372036854775807) (hs : (flat l ++ rest).length = c * 2) : SR base w (.slice (some ⟨g, 0, none⟩) l.length c) l :=
  ⟨flat_len l, .inr ⟨g, c, _, rfl, hg, hB.out, hn, hc, by simpa using hs, by rw [List.toList_toArray, ← flat_len l, List.take_left]⟩⟩
/-- An empty row grows to n zeros: a new row. -/
theorem run_append_zeros {P : Program} {w : World} (t tk ty e : TypeId) (i : TypeInfo) (z : Value) (ik : IntKind) (ht : P.underlying t = some (.slice e)) (hk : P.underlying tk = some (.int ik)) (hi : P.info? e = some i) (hz : i.zero = some z)
    (base : Option Addr) (sCap n : Nat) (hg : sCap < n) (h63 : (n : Int) ≤ 9223372036854775807) (hb : (n : Int) * i.bytes ≤ 281474976710656) (hs : 0 < n * i.size) (hfit : Builtin.nextslicecap n sCap * i.bytes ≤ 281474976710656) :
    (Builtin.append_ #[t, tk] ty #[.slice base 0 sCap, .int .i64 n]).run P w =
      .ok (.slice (some ⟨w.heap.size, 0, none⟩) n (grownCap w n sCap e)) (w.drew.alloc (.cells (Builtin.zeroCells z.cells n ++ Builtin.zeroCells z.cells (grownCap w n sCap e - n)) e)) := by
  have hn : ¬ (n ≤ sCap) := by omega
  have hw : IntKind.i64.wrap (n : Int) = n := by simp [IntKind.wrap, IntKind.bits, IntKind.signed]; omega
  have h0 : ¬ ((n : Int) < 0) := by omega
  have h48 : ¬ (281474976710656 < (n : Int) * i.bytes) := by omega
  have h63' : ¬ (9223372036854775807 < (n : Int)) := by omega
  have h48' : ¬ (281474976710656 < Builtin.nextslicecap n sCap * i.bytes) := by omega
  have hz' : ¬ (n * i.size = 0) := by omega
  have ha : ∀ w : World, (asInt (.int .i64 (n : Int))).run P w = .ok (n : Int) w := fun _ => rfl
  have hf : ∀ w : World, (Builtin.firstCells i.size 0 (.slice base 0 sCap)).run P w = .ok #[] w := fun w => by cases base <;> simp [Builtin.firstCells, loadCells, loadCellsFrom]
  simp [ha, hf, Builtin.append_, run_underlying ht, run_underlying hk, sizeOf, typeInfo, zeroValue, hi, hz, hn, hw, h0, h48, h63', h48', hz', Question.forced, newRow, grownCap]
theorem run_copy_seg {P : Program} (w : World) (dT sT ty elem : TypeId) (g o dLen dCap k so sLen sCap sz n : Nat) (L L' cs Ln : List Value) (t t' : TypeId)
    (hu : P.underlying dT = some (.slice elem)) (hs : (P.info? elem).map (·.size) = some sz)
    (hB : Blk w g t L) (hK : Blk w k t' L') (hm : Nat.min sLen dLen = n) (hn : cs.length = n * sz)
    (hsrc : (L'.drop so).take cs.length = cs) (hfit : o + cs.length ≤ L.length) (h1 : ∀ v ∈ cs, v.oneCell' = true) (hl : L.take o ++ cs ++ L.drop (o + cs.length) = Ln) :
    ∃ w', (Builtin.copy_ #[dT, sT] ty #[.slice (some ⟨g, o, none⟩) dLen dCap, .slice (some ⟨k, so, none⟩) sLen sCap]).run P w = .ok (goInt n) w' ∧ Blk w' g t Ln ∧ w.grownBy w' (some g) := by
  have hadd : ∀ j, (⟨k, so, none⟩ : Addr).add j = ⟨k, so + j, none⟩ := fun j => by unfold Addr.add; split <;> simp_all
  have hc : ∀ j v, cs[j]? = some v → w.cell? ((⟨k, so, none⟩ : Addr).add j) = some v := fun j v hv => by
    rw [hadd, hK.cell]
    rw [← hsrc, List.getElem?_take] at hv
    split at hv
    · rwa [List.getElem?_drop] at hv
    · cases hv
  have hl1 := run_loadCells_list (P := P) w ⟨k, so, none⟩ cs hc
  have hst := run_storeCells_at P g o t cs 0 L.toArray w hB.out (by simpa using hfit) h1
  obtain ⟨i, hq, hi⟩ := Option.map_eq_some_iff.1 hs
  rw [hn] at hl1
  refine ⟨w.setRow g Ln.toArray, ?_, ⟨setRow_heap _ _ _ _ _ _ hB.out⟩, ⟨rfl, rfl, rfl, by rw [setRow_size]; exact Nat.le_refl _, fun j _ hj => setRow_other _ _ _ _ (fun e => hj (by rw [e]))⟩⟩
  rw [← hl]
  simp [Builtin.copy_, run_underlying hu, Builtin.lenOf, Builtin.firstCells, sizeOf, typeInfo, hq, hi, hm, hl1, hst]
section
variable {P : Program} {ops : Array Oper} {rest : List Oper} {o : Oper} {a : Act} {W : World}
theorem seg_copy {Q : Exit → Act → World → Prop} (hgd : o.guard = none) (d s : Operand) (dT sT : TypeId) (ho : o.op = .call { callee := .builtin .copy, args := #[d, s], argTypes := #[dT, sT] }) (elem : TypeId) (g off dLen dCap k so sLen sCap sz n : Nat) (L L' cs Ln : List Value) (t t' : TypeId)
    (hd : a.eval d = .slice (some ⟨g, off, none⟩) dLen dCap) (hs : a.eval s = .slice (some ⟨k, so, none⟩) sLen sCap)
    (hu : P.underlying dT = some (.slice elem)) (hz : (P.info? elem).map (·.size) = some sz)
    (hB : Blk W g t L) (hK : Blk W k t' L') (hm : Nat.min sLen dLen = n) (hn : cs.length = n * sz)
    (hsrc : (L'.drop so).take cs.length = cs) (hfit : off + cs.length ≤ L.length) (h1 : ∀ v ∈ cs, v.oneCell' = true) (hl : L.take off ++ cs ++ L.drop (off + cs.length) = Ln)
    (h : ∀ w1, Blk w1 g t Ln → W.grownBy w1 (some g) → wpList P ops Q rest (a.put o.dst (goInt n)) w1) : wpList P ops Q (o :: rest) a W := by
  obtain ⟨w1, hr, hB1, hg1⟩ := run_copy_seg (P := P) W dT sT o.type elem g off dLen dCap k so sLen sCap sz n L L' cs Ln t t' hu hz hB hK hm hn hsrc hfit h1 hl
  refine wpList_plain hgd fun K hK' => ?_
  unfold Oper.wp execOp
  simp only [ho, resolve, invoke, builtin, Sem.run_bind, Sem.run_pure, Result.andThen_ok, List.map_toArray, List.map_cons, List.map_nil, hd, hs, hr]
  exact hK' _ _ (h w1 hB1 hg1)
theorem step_copy {Q : Exit → Act → World → Prop} {K : Act → World → Prop} {E : Prop} (hgd : o.guard = none) (d s : Operand) (dT sT : TypeId) (ho : o.op = .call { callee := .builtin .copy, args := #[d, s], argTypes := #[dT, sT] }) (elem : TypeId) (g off dLen dCap k so sLen sCap sz n : Nat) (L L' cs Ln : List Value) (t t' : TypeId)
    (hd : a.eval d = .slice (some ⟨g, off, none⟩) dLen dCap) (hs : a.eval s = .slice (some ⟨k, so, none⟩) sLen sCap)
    (hu : P.underlying dT = some (.slice elem)) (hz : (P.info? elem).map (·.size) = some sz)
    (hB : Blk W g t L) (hK : Blk W k t' L') (hm : Nat.min sLen dLen = n) (hn : cs.length = n * sz)
    (hsrc : (L'.drop so).take cs.length = cs) (hfit : off + cs.length ≤ L.length) (h1 : ∀ v ∈ cs, v.oneCell' = true) (hl : L.take off ++ cs ++ L.drop (off + cs.length) = Ln)
    (h : ∀ w1, Blk w1 g t Ln → W.grownBy w1 (some g) → K (a.put o.dst (goInt n)) w1) : if Region.wanted o (yielded ops a.tmps) = true then Oper.wp P o a W K Q else E := by
  obtain ⟨w1, hr, hB1, hg1⟩ := run_copy_seg (P := P) W dT sT o.type elem g off dLen dCap k so sLen sCap sz n L L' cs Ln t t' hu hz hB hK hm hn hsrc hfit h1 hl
  have hw : Region.wanted o (yielded ops a.tmps) = true := by simp [Region.wanted, hgd]
  rw [if_pos hw]
  unfold Oper.wp execOp
  simp only [ho, resolve, invoke, builtin, Sem.run_bind, Sem.run_pure, Result.andThen_ok, List.map_toArray, List.map_cons, List.map_nil, hd, hs, hr]
  exact h w1 hB1 hg1
theorem zeros_list (z : List Value) (n m : Nat) (hz : z = [.int .u64 0, .int .u64 0]) : (Builtin.zeroCells z.toArray n ++ Builtin.zeroCells z.toArray m) = (List.replicate ((n + m) * 2) (Value.int .u64 0)).toArray := by
  subst hz
  have h : ∀ n, (Builtin.zeroCells #[Value.int .u64 0, Value.int .u64 0] n) = (List.replicate (n * 2) (Value.int .u64 0)).toArray := fun n => by
    apply Array.toList_inj.1
    apply List.ext_getElem
    · simp [Builtin.zeroCells]
    · intro i h1 h2
      simp only [Builtin.zeroCells, List.size_toArray, List.length_cons, List.length_nil, Array.getElem_toList, Array.getElem_ofFn, List.getElem_toArray, List.getElem_replicate]
      have : i % 2 = 0 ∨ i % 2 = 1 := by omega
      rcases this with e | e <;> simp [e]
  rw [h n, h m]
  simp [List.replicate_append_replicate, Nat.add_mul]
theorem seg_zeros {Q : Exit → Act → World → Prop} (hgd : o.guard = none) (s x : Operand) (t tn e : TypeId) (ho : o.op = .call { callee := .builtin .append, args := #[s, x], argTypes := #[t, tn] }) (i : TypeInfo) (base : Option Addr) (sCap n : Nat)
    (hs : a.eval s = .slice base 0 sCap) (hx : a.eval x = .int .i64 (n : Int)) (ht : P.underlying t = some (.slice e)) (htn : P.underlying tn = some (.int .i64)) (hi : P.info? e = some i) (hz : i.zero = some (.agg #[.int .u64 0, .int .u64 0])) (hsz : i.size = 2) (hby : i.bytes = 16)
    (hg : sCap < n) (hn : n < 1000000)
    (h : ∀ g, g = W.heap.size → ∀ w1 c, Blk w1 g e (List.replicate (c * 2) (Value.int .u64 0)) → n ≤ c → c ≤ 9223372036854775807 → Below W.heap.size W w1 → wpList P ops Q rest (a.put o.dst (.slice (some ⟨g, 0, none⟩) n c)) w1) : wpList P ops Q (o :: rest) a W := by
  have hfit := growslice_fits (need := n) (old := sCap) (bytes := 16) hg (by omega)
  have hr := run_append_zeros (P := P) (w := W) t tn o.type e i _ .i64 ht htn hi hz base sCap n hg (by omega) (by rw [hby]; omega) (by rw [hsz]; omega) (by rw [hby]; exact hfit)
  have hGn : n ≤ grownCap W n sCap e := grownCap_ge W _ _ _
  have hG63 := grownCap_le_maxLen W n sCap e (by unfold maxLen; omega)
  unfold maxLen at hG63
  generalize grownCap W n sCap e = G at *
  rw [show (Value.agg #[.int .u64 0, .int .u64 0]).cells = [Value.int .u64 0, Value.int .u64 0].toArray from rfl, zeros_list _ n (G - n) rfl, show n + (G - n) = G by omega] at hr
  refine wpList_plain hgd fun K hK' => ?_
  unfold Oper.wp execOp
  simp only [ho, resolve, invoke, builtin, Sem.run_bind, Sem.run_pure, Result.andThen_ok, List.map_toArray, List.map_cons, List.map_nil, hs, hx, hr]
  exact hK' _ _ (h _ rfl _ G (blkNew W.drew _ e) hGn hG63 (below_alloc (below_drew1 (Below.refl _ _)) _))
end

end Go.Proofs.Ytphakdfholkbdaa
