import Derived.Outline
import Derived.Handy
import Derived.Recover
import Derived.WalkSmall
import Derived.Laws.Externs
import Derived.Laws.CopyOwn
import Derived.Lib.AppendZerosOnto
import Derived.Lib.Overlaps
import Derived.Deep.RegionLaw
import Derived.Test.YtphakdfholkbdaaPFrax0
import Derived.Test.YtphakdfholkbdaaNum
import Derived.Test.YtphakdfholkbdaaSeg
import Derived.Test.YtphakdfholkbdaaFraB
import Derived.Test.YtphakdfholkbdaaFrPt
namespace Go.Proofs.Ytphakdfholkbdaa
open Go.Proofs.Ytphakdfholkbdaa.PFra Go.RowKit Go.Proofs.YtphakdfholkbdaaW.PrintWords Go.Proofs.YtphakdfholkbdaaW.PrintLast Go.Proofs.YtphakdfholkbdaaW.PrintMore
set_option maxRecDepth 100000
set_option maxHeartbeats 4000000
set_option linter.unusedVariables false
set_option linter.unusedSimpArgs false
theorem clos_idle (ge gf gn : Nat) (x : Int) (w : World) (Be : Blk w ge 29 [.int .i64 x]) :
    CallsD Try.prog 32 #[.pointer (some ⟨ge, 0, none⟩), .pointer (some ⟨gf, 0, none⟩), .pointer (some ⟨gn, 0, none⟩)] .returning w fun e u' w' => e = .returned (.tuple #[]) ∧ u' = .returning ∧ w' = w.setCell ⟨ge, 0, none⟩ (.int .i64 0) := by
  have c0 := Be.at 0 rfl
  have f0 := Be.frozen 0
  refine callsD_of_wpS Try.func32 rfl fun c₀ cs hu => ?_
  apply wpS_seq
  apply wpS_region
  simp [wpOpsS, go_sem, recoverD, hu, Try.ntmps32, Exit.thenS]
  refine (caught_nil w).mono ?_
  rintro e w' ⟨rfl, rfl⟩
  simp [go_sem, c0, f0]
  apply wpS_seq
  apply wpS_region
  simp [wpOpsS, go_sem, c0, f0, Exit.thenS]
  refine wpS_cond (t := false) (by simp [Act.eval, Array.replicate]) ?_
  simp only [Bool.false_eq_true, if_false]
  refine wpS_of_wp (wp_skip ?_)
  cases c₀
  simp_all [bodyPostS, results, Try.func32]
theorem clos_gave (ge gf gn : Nat) (x n0 : Int) (l0 : List Value) (hl0 : l0.length = 10) (w : World) (Be : Blk w ge 29 [.int .i64 x]) (Bf : Blk w gf 27 l0) (Bn : Blk w gn 3 [.int .i64 n0]) :
    CallsD Try.prog 32 #[.pointer (some ⟨ge, 0, none⟩), .pointer (some ⟨gf, 0, none⟩), .pointer (some ⟨gn, 0, none⟩)] (.panicking [{ v := .iface 29 (.int .i64 50), recovered := false }]) w fun e u' w' =>
      e = .returned (.tuple #[]) ∧ u' = .panicking [{ v := .iface 29 (.int .i64 50), recovered := true }] ∧ Blk w' ge 29 [.int .i64 50] ∧ Blk w' gf 27 [.int .i64 0, .int .u64 0, .int .u64 0, .int .u64 0, .int .u64 0, .int .u64 0, .int .u64 0, .bool false, .slice none 0 0, .slice none 0 0] ∧ Blk w' gn 3 [.int .i64 0] ∧ (∀ w0, Since w0 w → w0.heap.size ≤ ge → w0.heap.size ≤ gf → w0.heap.size ≤ gn → Since w0 w') := by
  have c0 := Be.at 0 rfl
  have f0 := Be.frozen 0
  have hef : ge ≠ gf := blk_ne_of Be Bf (by decide)
  have hen : ge ≠ gn := blk_ne_of Be Bn (by decide)
  have hfn : gf ≠ gn := blk_ne_of Bf Bn (by decide)
  have hu27 := Try.underlying27
  refine callsD_of_wpS Try.func32 rfl fun c₀ cs hu => ?_
  apply wpS_seq
  apply wpS_region
  simp [wpOpsS, go_sem, recoverD, hu, Try.ntmps32, Exit.thenS]
  refine (caught_it w).mono ?_
  rintro e w' ⟨rfl, rfl⟩
  simp [go_sem, c0, f0]
  apply wpS_seq
  apply wpS_region
  simp [wpOpsS, go_sem, c0, f0, Exit.thenS]
  refine wpS_cond (t := true) (by simp [Act.eval, Array.replicate]) ?_
  simp only [if_true]
  replace Be := Be.set 0 (.int .i64 50) rfl
  replace Bf := Bf.setFar (i := 0) (u := .int .i64 50) hef.symm
  replace Bn := Bn.setFar (i := 0) (u := .int .i64 50) hen.symm
  have HS : ∀ w0, Since w0 w → w0.heap.size ≤ ge → Since w0 (w.setCell ⟨ge, 0, none⟩ (.int .i64 50)) := fun w0 h h1 => h.set h1
  generalize w.setCell ⟨ge, 0, none⟩ (.int .i64 50) = w1 at *
  have c1 := Bn.at 0 rfl
  have f1 := Bn.frozen 0
  refine wpS_of_wp ?_
  go_wp2_with (refine seg_store rfl rfl 27 (.tmp 1) (.tmp 7) rfl gf 0 [.int .i64 0, .int .u64 0, .int .u64 0, .int .u64 0, .int .u64 0, .int .u64 0, .int .u64 0, .bool false, .slice none 0 0, .slice none 0 0] [.int .i64 0, .int .u64 0, .int .u64 0, .int .u64 0, .int .u64 0, .int .u64 0, .int .u64 0, .bool false, .slice none 0 0, .slice none 0 0] _ rfl rfl rfl Bf (by kernel_rfl) (by rw [hl0]; decide) rfl ?hx ?_; (case hx => (rw [List.drop_of_length_le (by rw [hl0]; decide)]; rfl)); intro w2 Bf2 hg2; have Be2 := Be.grown hg2 hef; have Bn2 := Bn.grown hg2 hfn.symm; have c2 := Bn2.at 0 rfl; have f2 := Bn2.frozen 0)
  have B1 : Blk (w2.setCell ⟨gn, 0, none⟩ (.int .i64 0)) ge 29 [.int .i64 50] := Be2.setFar hen
  have B2 := Bf2.setFar (i := 0) (u := .int .i64 0) hfn
  have B3 : Blk (w2.setCell ⟨gn, 0, none⟩ (.int .i64 0)) gn 3 [.int .i64 0] := Bn2.set 0 _ rfl
  have HS2 : ∀ (w0 : World), Since w0 w → w0.heap.size ≤ ge → w0.heap.size ≤ gf → w0.heap.size ≤ gn → Since w0 (w2.setCell ⟨gn, 0, none⟩ (.int .i64 0)) := fun w0 h h1 h2 h3 => ((HS w0 h h1).grown hg2 h2).set h3
  generalize w2.setCell ⟨gn, 0, none⟩ (.int .i64 0) = w3 at *
  simp [bodyPostS, results, Try.func32]
  exact ⟨B1, B2, B3, HS2⟩

end Go.Proofs.Ytphakdfholkbdaa
