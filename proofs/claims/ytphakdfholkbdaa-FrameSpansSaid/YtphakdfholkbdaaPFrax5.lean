-- Written by a program of this session (wip/tools/xprint.py) for this claim.
import Derived.Test.YtphakdfholkbdaaPFrax0
import Derived.Test.YtphakdfholkbdaaPFrax4
namespace Go.Proofs.Ytphakdfholkbdaa.PFra
open Go.RowKit Go.Proofs.YtphakdfholkbdaaW.PrintWords Go.Proofs.YtphakdfholkbdaaW.PrintLast Go.Proofs.YtphakdfholkbdaaW.PrintMore
set_option linter.unusedVariables false
set_option linter.unusedSimpArgs false

-- given
/-! ### frame_Check: function 15 -/
set_option maxRecDepth 100000
set_option maxHeartbeats 4000000
/-- Which of a frame's cells are its numbers, in their order. -/
def fOffs (a0 : Int) : Option (List Nat) := if a0 = 0 ∨ a0 = 1 ∨ a0 = 30 then some [] else if a0 = 2 then some [5] else if a0 = 3 then some [5, 6] else if a0 = 4 then some [1, 4, 3] else if a0 = 5 then some [1, 4] else if a0 = 6 then some [3, 2, 1] else if a0 = 14 then some [1, 2] else if a0 = 16 ∨ a0 = 18 ∨ a0 = 20 then some [3] else if a0 = 17 ∨ a0 = 21 then some [1, 3] else if a0 = 28 then some [4] else none
theorem blkNew (w : World) (l : List Value) (t : TypeId) : Blk (w.alloc (.cells l.toArray t (0, 0))) w.heap.size t l := ⟨blk_new w _⟩
/-- A row of pointers to the cells os of block g. -/
def PR (w : World) (A : Option Addr) (g : Nat) (os : List Nat) : Prop := os ≠ [] → ∃ b, A = some ⟨b, 0, none⟩ ∧ Blk w b 60 (os.map fun o => .pointer (some ⟨g, o, none⟩))
theorem fields1 (s : Value) (w : World) : Calls Try.prog 39 #[s] w fun e w' => e = .returned (.tuple #[s, .bool true]) ∧ w = w' := by
  go_enter Try.func39, Try.ntmps39
  go_wp2
  go_ret2
  exact ⟨rfl, rfl⟩
def FPost (g : Nat) (os : List Nat) (w : World) (e : Ending) (w' : World) : Prop := ∃ A, e = .returned (.tuple #[.slice A os.length os.length, .bool true]) ∧ PR w' A g os ∧ Below w.heap.size w w'
theorem fields_0 (g : Nat) (w : World) (hk : w.cell? ⟨g, 0, none⟩ = some (.int .i64 0)) : Calls Try.prog 26 #[.pointer (some ⟨g, 0, none⟩)] w (FPost g [] w) := by
  have hu := Try.underlying27
  go_enter Try.func26, Try.ntmps26
  go_wp2_with ((go_at_call 39); with_reducible refine (fields1 _ _).mono ?_; rintro e w' ⟨rfl, rfl⟩)
  all_goals go_ret2
  all_goals exact ⟨_, rfl, fun h => absurd rfl h, Below.refl _ _⟩
theorem fields_1 (g : Nat) (w : World) (hk : w.cell? ⟨g, 0, none⟩ = some (.int .i64 1)) : Calls Try.prog 26 #[.pointer (some ⟨g, 0, none⟩)] w (FPost g [] w) := by
  have hu := Try.underlying27
  go_enter Try.func26, Try.ntmps26
  go_wp2_with ((go_at_call 39); with_reducible refine (fields1 _ _).mono ?_; rintro e w' ⟨rfl, rfl⟩)
  all_goals go_ret2
  all_goals exact ⟨_, rfl, fun h => absurd rfl h, Below.refl _ _⟩
theorem fields_30 (g : Nat) (w : World) (hk : w.cell? ⟨g, 0, none⟩ = some (.int .i64 30)) : Calls Try.prog 26 #[.pointer (some ⟨g, 0, none⟩)] w (FPost g [] w) := by
  have hu := Try.underlying27
  go_enter Try.func26, Try.ntmps26
  go_wp2_with ((go_at_call 39); with_reducible refine (fields1 _ _).mono ?_; rintro e w' ⟨rfl, rfl⟩)
  all_goals go_ret2
  all_goals exact ⟨_, rfl, fun h => absurd rfl h, Below.refl _ _⟩
theorem fields_2 (g : Nat) (w : World) (hk : w.cell? ⟨g, 0, none⟩ = some (.int .i64 2)) : Calls Try.prog 26 #[.pointer (some ⟨g, 0, none⟩)] w (FPost g [5] w) := by
  have hu := Try.underlying27
  go_enter Try.func26, Try.ntmps26
  go_wp2_with ((go_at_call 39); with_reducible refine (fields1 _ _).mono ?_; rintro e w' ⟨rfl, rfl⟩)
  all_goals go_ret2
  all_goals exact ⟨_, rfl, fun _ => ⟨_, rfl, by first | exact blkNew _ [.pointer (some ⟨g, 5, none⟩)] 60 | exact (blkNew _ [.pointer (some ⟨g, 5, none⟩)] 60).drew⟩, by first | exact below_alloc (Below.refl _ _) _ | exact below_drew1 (below_alloc (Below.refl _ _) _) | exact below_alloc (below_drew1 (Below.refl _ _)) _⟩
theorem fields_3 (g : Nat) (w : World) (hk : w.cell? ⟨g, 0, none⟩ = some (.int .i64 3)) : Calls Try.prog 26 #[.pointer (some ⟨g, 0, none⟩)] w (FPost g [5, 6] w) := by
  have hu := Try.underlying27
  go_enter Try.func26, Try.ntmps26
  go_wp2_with ((go_at_call 39); with_reducible refine (fields1 _ _).mono ?_; rintro e w' ⟨rfl, rfl⟩)
  go_region_with ((go_at_call 39); with_reducible refine (fields1 _ _).mono ?_; rintro e w' ⟨rfl, rfl⟩)
  all_goals go_wp2
  all_goals go_ret2
  all_goals exact ⟨_, rfl, fun _ => ⟨_, rfl, by first | exact blkNew _ [.pointer (some ⟨g, 5, none⟩), .pointer (some ⟨g, 6, none⟩)] 60 | exact (blkNew _ [.pointer (some ⟨g, 5, none⟩), .pointer (some ⟨g, 6, none⟩)] 60).drew⟩, by first | exact below_alloc (Below.refl _ _) _ | exact below_drew1 (below_alloc (Below.refl _ _) _) | exact below_alloc (below_drew1 (Below.refl _ _)) _⟩
theorem fields_4 (g : Nat) (w : World) (hk : w.cell? ⟨g, 0, none⟩ = some (.int .i64 4)) : Calls Try.prog 26 #[.pointer (some ⟨g, 0, none⟩)] w (FPost g [1, 4, 3] w) := by
  have hu := Try.underlying27
  go_enter Try.func26, Try.ntmps26
  go_wp2_with ((go_at_call 39); with_reducible refine (fields1 _ _).mono ?_; rintro e w' ⟨rfl, rfl⟩)
  go_region_with ((go_at_call 39); with_reducible refine (fields1 _ _).mono ?_; rintro e w' ⟨rfl, rfl⟩)
  all_goals go_wp2
  all_goals go_ret2
  all_goals exact ⟨_, rfl, fun _ => ⟨_, rfl, by first | exact blkNew _ [.pointer (some ⟨g, 1, none⟩), .pointer (some ⟨g, 4, none⟩), .pointer (some ⟨g, 3, none⟩)] 60 | exact (blkNew _ [.pointer (some ⟨g, 1, none⟩), .pointer (some ⟨g, 4, none⟩), .pointer (some ⟨g, 3, none⟩)] 60).drew⟩, by first | exact below_alloc (Below.refl _ _) _ | exact below_drew1 (below_alloc (Below.refl _ _) _) | exact below_alloc (below_drew1 (Below.refl _ _)) _⟩
theorem fields_5 (g : Nat) (w : World) (hk : w.cell? ⟨g, 0, none⟩ = some (.int .i64 5)) : Calls Try.prog 26 #[.pointer (some ⟨g, 0, none⟩)] w (FPost g [1, 4] w) := by
  have hu := Try.underlying27
  go_enter Try.func26, Try.ntmps26
  go_wp2_with ((go_at_call 39); with_reducible refine (fields1 _ _).mono ?_; rintro e w' ⟨rfl, rfl⟩)
  go_region_with ((go_at_call 39); with_reducible refine (fields1 _ _).mono ?_; rintro e w' ⟨rfl, rfl⟩)
  all_goals go_wp2
  all_goals go_ret2
  all_goals exact ⟨_, rfl, fun _ => ⟨_, rfl, by first | exact blkNew _ [.pointer (some ⟨g, 1, none⟩), .pointer (some ⟨g, 4, none⟩)] 60 | exact (blkNew _ [.pointer (some ⟨g, 1, none⟩), .pointer (some ⟨g, 4, none⟩)] 60).drew⟩, by first | exact below_alloc (Below.refl _ _) _ | exact below_drew1 (below_alloc (Below.refl _ _) _) | exact below_alloc (below_drew1 (Below.refl _ _)) _⟩
theorem fields_6 (g : Nat) (w : World) (hk : w.cell? ⟨g, 0, none⟩ = some (.int .i64 6)) : Calls Try.prog 26 #[.pointer (some ⟨g, 0, none⟩)] w (FPost g [3, 2, 1] w) := by
  have hu := Try.underlying27
  go_enter Try.func26, Try.ntmps26
  go_wp2_with ((go_at_call 39); with_reducible refine (fields1 _ _).mono ?_; rintro e w' ⟨rfl, rfl⟩)
  go_region_with ((go_at_call 39); with_reducible refine (fields1 _ _).mono ?_; rintro e w' ⟨rfl, rfl⟩)
  all_goals go_wp2
  all_goals go_ret2
  all_goals exact ⟨_, rfl, fun _ => ⟨_, rfl, by first | exact blkNew _ [.pointer (some ⟨g, 3, none⟩), .pointer (some ⟨g, 2, none⟩), .pointer (some ⟨g, 1, none⟩)] 60 | exact (blkNew _ [.pointer (some ⟨g, 3, none⟩), .pointer (some ⟨g, 2, none⟩), .pointer (some ⟨g, 1, none⟩)] 60).drew⟩, by first | exact below_alloc (Below.refl _ _) _ | exact below_drew1 (below_alloc (Below.refl _ _) _) | exact below_alloc (below_drew1 (Below.refl _ _)) _⟩
theorem fields_14 (g : Nat) (w : World) (hk : w.cell? ⟨g, 0, none⟩ = some (.int .i64 14)) : Calls Try.prog 26 #[.pointer (some ⟨g, 0, none⟩)] w (FPost g [1, 2] w) := by
  have hu := Try.underlying27
  go_enter Try.func26, Try.ntmps26
  go_wp2_with ((go_at_call 39); with_reducible refine (fields1 _ _).mono ?_; rintro e w' ⟨rfl, rfl⟩)
  go_region_with ((go_at_call 39); with_reducible refine (fields1 _ _).mono ?_; rintro e w' ⟨rfl, rfl⟩)
  all_goals go_wp2
  all_goals go_ret2
  all_goals exact ⟨_, rfl, fun _ => ⟨_, rfl, by first | exact blkNew _ [.pointer (some ⟨g, 1, none⟩), .pointer (some ⟨g, 2, none⟩)] 60 | exact (blkNew _ [.pointer (some ⟨g, 1, none⟩), .pointer (some ⟨g, 2, none⟩)] 60).drew⟩, by first | exact below_alloc (Below.refl _ _) _ | exact below_drew1 (below_alloc (Below.refl _ _) _) | exact below_alloc (below_drew1 (Below.refl _ _)) _⟩
theorem fields_16 (g : Nat) (w : World) (hk : w.cell? ⟨g, 0, none⟩ = some (.int .i64 16)) : Calls Try.prog 26 #[.pointer (some ⟨g, 0, none⟩)] w (FPost g [3] w) := by
  have hu := Try.underlying27
  go_enter Try.func26, Try.ntmps26
  go_wp2_with ((go_at_call 39); with_reducible refine (fields1 _ _).mono ?_; rintro e w' ⟨rfl, rfl⟩)
  all_goals go_ret2
  all_goals exact ⟨_, rfl, fun _ => ⟨_, rfl, by first | exact blkNew _ [.pointer (some ⟨g, 3, none⟩)] 60 | exact (blkNew _ [.pointer (some ⟨g, 3, none⟩)] 60).drew⟩, by first | exact below_alloc (Below.refl _ _) _ | exact below_drew1 (below_alloc (Below.refl _ _) _) | exact below_alloc (below_drew1 (Below.refl _ _)) _⟩
theorem fields_18 (g : Nat) (w : World) (hk : w.cell? ⟨g, 0, none⟩ = some (.int .i64 18)) : Calls Try.prog 26 #[.pointer (some ⟨g, 0, none⟩)] w (FPost g [3] w) := by
  have hu := Try.underlying27
  go_enter Try.func26, Try.ntmps26
  go_wp2_with ((go_at_call 39); with_reducible refine (fields1 _ _).mono ?_; rintro e w' ⟨rfl, rfl⟩)
  all_goals go_ret2
  all_goals exact ⟨_, rfl, fun _ => ⟨_, rfl, by first | exact blkNew _ [.pointer (some ⟨g, 3, none⟩)] 60 | exact (blkNew _ [.pointer (some ⟨g, 3, none⟩)] 60).drew⟩, by first | exact below_alloc (Below.refl _ _) _ | exact below_drew1 (below_alloc (Below.refl _ _) _) | exact below_alloc (below_drew1 (Below.refl _ _)) _⟩
theorem fields_20 (g : Nat) (w : World) (hk : w.cell? ⟨g, 0, none⟩ = some (.int .i64 20)) : Calls Try.prog 26 #[.pointer (some ⟨g, 0, none⟩)] w (FPost g [3] w) := by
  have hu := Try.underlying27
  go_enter Try.func26, Try.ntmps26
  go_wp2_with ((go_at_call 39); with_reducible refine (fields1 _ _).mono ?_; rintro e w' ⟨rfl, rfl⟩)
  all_goals go_ret2
  all_goals exact ⟨_, rfl, fun _ => ⟨_, rfl, by first | exact blkNew _ [.pointer (some ⟨g, 3, none⟩)] 60 | exact (blkNew _ [.pointer (some ⟨g, 3, none⟩)] 60).drew⟩, by first | exact below_alloc (Below.refl _ _) _ | exact below_drew1 (below_alloc (Below.refl _ _) _) | exact below_alloc (below_drew1 (Below.refl _ _)) _⟩
theorem fields_17 (g : Nat) (w : World) (hk : w.cell? ⟨g, 0, none⟩ = some (.int .i64 17)) : Calls Try.prog 26 #[.pointer (some ⟨g, 0, none⟩)] w (FPost g [1, 3] w) := by
  have hu := Try.underlying27
  go_enter Try.func26, Try.ntmps26
  go_wp2_with ((go_at_call 39); with_reducible refine (fields1 _ _).mono ?_; rintro e w' ⟨rfl, rfl⟩)
  go_region_with ((go_at_call 39); with_reducible refine (fields1 _ _).mono ?_; rintro e w' ⟨rfl, rfl⟩)
  all_goals go_wp2
  all_goals go_ret2
  all_goals exact ⟨_, rfl, fun _ => ⟨_, rfl, by first | exact blkNew _ [.pointer (some ⟨g, 1, none⟩), .pointer (some ⟨g, 3, none⟩)] 60 | exact (blkNew _ [.pointer (some ⟨g, 1, none⟩), .pointer (some ⟨g, 3, none⟩)] 60).drew⟩, by first | exact below_alloc (Below.refl _ _) _ | exact below_drew1 (below_alloc (Below.refl _ _) _) | exact below_alloc (below_drew1 (Below.refl _ _)) _⟩
theorem fields_21 (g : Nat) (w : World) (hk : w.cell? ⟨g, 0, none⟩ = some (.int .i64 21)) : Calls Try.prog 26 #[.pointer (some ⟨g, 0, none⟩)] w (FPost g [1, 3] w) := by
  have hu := Try.underlying27
  go_enter Try.func26, Try.ntmps26
  go_wp2_with ((go_at_call 39); with_reducible refine (fields1 _ _).mono ?_; rintro e w' ⟨rfl, rfl⟩)
  go_region_with ((go_at_call 39); with_reducible refine (fields1 _ _).mono ?_; rintro e w' ⟨rfl, rfl⟩)
  all_goals go_wp2
  all_goals go_ret2
  all_goals exact ⟨_, rfl, fun _ => ⟨_, rfl, by first | exact blkNew _ [.pointer (some ⟨g, 1, none⟩), .pointer (some ⟨g, 3, none⟩)] 60 | exact (blkNew _ [.pointer (some ⟨g, 1, none⟩), .pointer (some ⟨g, 3, none⟩)] 60).drew⟩, by first | exact below_alloc (Below.refl _ _) _ | exact below_drew1 (below_alloc (Below.refl _ _) _) | exact below_alloc (below_drew1 (Below.refl _ _)) _⟩
theorem fields_28 (g : Nat) (w : World) (hk : w.cell? ⟨g, 0, none⟩ = some (.int .i64 28)) : Calls Try.prog 26 #[.pointer (some ⟨g, 0, none⟩)] w (FPost g [4] w) := by
  have hu := Try.underlying27
  go_enter Try.func26, Try.ntmps26
  go_wp2_with ((go_at_call 39); with_reducible refine (fields1 _ _).mono ?_; rintro e w' ⟨rfl, rfl⟩)
  all_goals go_ret2
  all_goals exact ⟨_, rfl, fun _ => ⟨_, rfl, by first | exact blkNew _ [.pointer (some ⟨g, 4, none⟩)] 60 | exact (blkNew _ [.pointer (some ⟨g, 4, none⟩)] 60).drew⟩, by first | exact below_alloc (Below.refl _ _) _ | exact below_drew1 (below_alloc (Below.refl _ _) _) | exact below_alloc (below_drew1 (Below.refl _ _)) _⟩
theorem fields_no (a0 : Int) (g : Nat) (w : World) (hk : w.cell? ⟨g, 0, none⟩ = some (.int .i64 a0)) (hn : fOffs a0 = none) : Calls Try.prog 26 #[.pointer (some ⟨g, 0, none⟩)] w fun e w' => e = .returned (.tuple #[.slice none 0 0, .bool false]) ∧ w = w' := by
  have hu := Try.underlying27
  have h : a0 ≠ 0 ∧ a0 ≠ 1 ∧ a0 ≠ 30 ∧ a0 ≠ 2 ∧ a0 ≠ 3 ∧ a0 ≠ 4 ∧ a0 ≠ 5 ∧ a0 ≠ 6 ∧ a0 ≠ 14 ∧ a0 ≠ 16 ∧ a0 ≠ 18 ∧ a0 ≠ 20 ∧ a0 ≠ 17 ∧ a0 ≠ 21 ∧ a0 ≠ 28 := by
    unfold fOffs at hn
    repeat (first | omega | (split at hn; (· cases hn)))
  clear hn
  obtain ⟨n0, n1, n30, n2, n3, n4, n5, n6, n14, n16, n18, n20, n17, n21, n28⟩ := h
  have e0 : (a0 == 0) = false := beq_eq_false_iff_ne.mpr n0
  have e1 : (a0 == 1) = false := beq_eq_false_iff_ne.mpr n1
  have e30 : (a0 == 30) = false := beq_eq_false_iff_ne.mpr n30
  have e2 : (a0 == 2) = false := beq_eq_false_iff_ne.mpr n2
  have e3 : (a0 == 3) = false := beq_eq_false_iff_ne.mpr n3
  have e4 : (a0 == 4) = false := beq_eq_false_iff_ne.mpr n4
  have e5 : (a0 == 5) = false := beq_eq_false_iff_ne.mpr n5
  have e6 : (a0 == 6) = false := beq_eq_false_iff_ne.mpr n6
  have e14 : (a0 == 14) = false := beq_eq_false_iff_ne.mpr n14
  have e16 : (a0 == 16) = false := beq_eq_false_iff_ne.mpr n16
  have e18 : (a0 == 18) = false := beq_eq_false_iff_ne.mpr n18
  have e20 : (a0 == 20) = false := beq_eq_false_iff_ne.mpr n20
  have e17 : (a0 == 17) = false := beq_eq_false_iff_ne.mpr n17
  have e21 : (a0 == 21) = false := beq_eq_false_iff_ne.mpr n21
  have e28 : (a0 == 28) = false := beq_eq_false_iff_ne.mpr n28
  clear n0 n1 n30 n2 n3 n4 n5 n6 n14 n16 n18 n20 n17 n21 n28
  go_enter Try.func26, Try.ntmps26
  go_wp2
  go_ret2
  exact ⟨rfl, rfl⟩
theorem fieldsC (a0 : Int) (g : Nat) (os : List Nat) (w : World) (hk : w.cell? ⟨g, 0, none⟩ = some (.int .i64 a0)) (hs : fOffs a0 = some os) : Calls Try.prog 26 #[.pointer (some ⟨g, 0, none⟩)] w (FPost g os w) := by
  unfold fOffs at hs
  split at hs
  · rename_i h
    obtain rfl := Option.some.inj hs
    rcases h with rfl | rfl | rfl
    · exact fields_0 g w hk
    · exact fields_1 g w hk
    · exact fields_30 g w hk
  split at hs
  · rename_i h
    obtain rfl := Option.some.inj hs
    rcases h with rfl
    exact fields_2 g w hk
  split at hs
  · rename_i h
    obtain rfl := Option.some.inj hs
    rcases h with rfl
    exact fields_3 g w hk
  split at hs
  · rename_i h
    obtain rfl := Option.some.inj hs
    rcases h with rfl
    exact fields_4 g w hk
  split at hs
  · rename_i h
    obtain rfl := Option.some.inj hs
    rcases h with rfl
    exact fields_5 g w hk
  split at hs
  · rename_i h
    obtain rfl := Option.some.inj hs
    rcases h with rfl
    exact fields_6 g w hk
  split at hs
  · rename_i h
    obtain rfl := Option.some.inj hs
    rcases h with rfl
    exact fields_14 g w hk
  split at hs
  · rename_i h
    obtain rfl := Option.some.inj hs
    rcases h with rfl | rfl | rfl
    · exact fields_16 g w hk
    · exact fields_18 g w hk
    · exact fields_20 g w hk
  split at hs
  · rename_i h
    obtain rfl := Option.some.inj hs
    rcases h with rfl | rfl
    · exact fields_17 g w hk
    · exact fields_21 g w hk
  split at hs
  · rename_i h
    obtain rfl := Option.some.inj hs
    rcases h with rfl
    exact fields_28 g w hk
  cases hs
def zf (os : List Nat) (j : Nat) (a : Int) : Int := if j ∈ os then 0 else a
def badF (os : List Nat) (j : Nat) (a : Int) : Bool := if j ∈ os then decide (4611686018427387903 < a) else a != 0
def uBad (os : List Nat) (a1 a2 a3 a4 a5 a6 : Int) : Bool := badF os 1 a1 || badF os 2 a2 || badF os 3 a3 || badF os 4 a4 || badF os 5 a5 || badF os 6 a6
def selA (o : Nat) (a1 a2 a3 a4 a5 a6 : Int) : Int := if o = 1 then a1 else if o = 2 then a2 else if o = 3 then a3 else if o = 4 then a4 else if o = 5 then a5 else a6
def cellsZ (os : List Nat) (a0 a1 a2 a3 a4 a5 a6 : Int) (a7 : Bool) (s8 s9 : Value) : List Value := [.int .i64 a0, .int .u64 (zf os 1 a1), .int .u64 (zf os 2 a2), .int .u64 (zf os 3 a3), .int .u64 (zf os 4 a4), .int .u64 (zf os 5 a5), .int .u64 (zf os 6 a6), .bool a7, s8, s9]
theorem cellsZ_nil (a0 a1 a2 a3 a4 a5 a6 : Int) (a7 : Bool) (s8 s9 : Value) : cellsZ [] a0 a1 a2 a3 a4 a5 a6 a7 s8 s9 = [.int .i64 a0, .int .u64 a1, .int .u64 a2, .int .u64 a3, .int .u64 a4, .int .u64 a5, .int .u64 a6, .bool a7, s8, s9] := by simp [cellsZ, zf]
theorem cellsZ_set (os : List Nat) (o : Nat) (h : 1 ≤ o) (h' : o ≤ 6) (a0 a1 a2 a3 a4 a5 a6 : Int) (a7 : Bool) (s8 s9 : Value) : (cellsZ os a0 a1 a2 a3 a4 a5 a6 a7 s8 s9).set o (.int .u64 0) = cellsZ (os ++ [o]) a0 a1 a2 a3 a4 a5 a6 a7 s8 s9 := by
  have : o = 1 ∨ o = 2 ∨ o = 3 ∨ o = 4 ∨ o = 5 ∨ o = 6 := by omega
  rcases this with rfl | rfl | rfl | rfl | rfl | rfl <;> simp [cellsZ, zf]
theorem cellsZ_at (os : List Nat) (o : Nat) (h : 1 ≤ o) (h' : o ≤ 6) (a0 a1 a2 a3 a4 a5 a6 : Int) (a7 : Bool) (s8 s9 : Value) : (cellsZ os a0 a1 a2 a3 a4 a5 a6 a7 s8 s9)[o]? = some (.int .u64 (zf os o (selA o a1 a2 a3 a4 a5 a6))) := by
  have : o = 1 ∨ o = 2 ∨ o = 3 ∨ o = 4 ∨ o = 5 ∨ o = 6 := by omega
  rcases this with rfl | rfl | rfl | rfl | rfl | rfl <;> simp [cellsZ, zf, selA]
theorem bad_of {os : List Nat} {o : Nat} {a1 a2 a3 a4 a5 a6 : Int} (h : o ∈ os) (h1 : 1 ≤ o ∧ o ≤ 6) (hg : 4611686018427387903 < selA o a1 a2 a3 a4 a5 a6) : uBad os a1 a2 a3 a4 a5 a6 = true := by
  have : o = 1 ∨ o = 2 ∨ o = 3 ∨ o = 4 ∨ o = 5 ∨ o = 6 := by omega
  rcases this with rfl | rfl | rfl | rfl | rfl | rfl <;> (simp [selA] at hg; simp [uBad, badF, h, hg])
theorem badF_no {os : List Nat} {o : Nat} {a : Int} (h1 : o ∈ os → a ≤ 4611686018427387903) (h2 : zf os o a = 0) : badF os o a = false := by
  unfold badF; unfold zf at h2
  split
  · rename_i h; simpa using h1 h
  · rename_i h; rw [if_neg h] at h2; simp [h2]
theorem bad_no {os : List Nat} {a1 a2 a3 a4 a5 a6 : Int} (hl : ∀ o ∈ os, selA o a1 a2 a3 a4 a5 a6 ≤ 4611686018427387903) (z1 : zf os 1 a1 = 0) (z2 : zf os 2 a2 = 0) (z3 : zf os 3 a3 = 0) (z4 : zf os 4 a4 = 0) (z5 : zf os 5 a5 = 0) (z6 : zf os 6 a6 = 0) : uBad os a1 a2 a3 a4 a5 a6 = false := by
  have e : ∀ (o : Nat) (a : Int), selA o a1 a2 a3 a4 a5 a6 = a → (o ∈ os → a ≤ 4611686018427387903) := fun o a h hm => h ▸ hl o hm
  simp [uBad, badF_no (e 1 a1 (by simp [selA])) z1, badF_no (e 2 a2 (by simp [selA])) z2, badF_no (e 3 a3 (by simp [selA])) z3, badF_no (e 4 a4 (by simp [selA])) z4, badF_no (e 5 a5 (by simp [selA])) z5, badF_no (e 6 a6 (by simp [selA])) z6]
theorem bad_z {os : List Nat} {o : Nat} {a : Int} (h : zf os o a ≠ 0) : badF os o a = true := by
  unfold badF; unfold zf at h
  split
  · rename_i hm; rw [if_pos hm] at h; exact absurd rfl h
  · rename_i hm; rw [if_neg hm] at h; simpa using h
theorem zf_w {os : List Nat} {o : Nat} {a : Int} (h : W64 a) : W64 (zf os o a) := by unfold zf; split <;> omega
theorem fOffs_mem {a0 : Int} {os : List Nat} (h : fOffs a0 = some os) : (∀ o ∈ os, 1 ≤ o ∧ o ≤ 6) ∧ os.length ≤ 3 := by
  unfold fOffs at h
  repeat (first | (cases h; done) | (split at h; (· obtain rfl := Option.some.inj h; decide)))
theorem or_w {a b : Int} (h1 : W64 a) (h2 : W64 b) : W64 (bits .or .u64 a b) := by
  rw [u64_or a b h1.1 (by omega) h2.1 (by omega)]
  have : a.toNat ||| b.toNat < 2 ^ 64 := Nat.or_lt_two_pow (by omega) (by omega)
  omega
theorem or_z {a b : Int} (h1 : W64 a) (h2 : W64 b) (h : bits .or .u64 a b = 0) : a = 0 ∧ b = 0 := by
  rw [u64_or a b h1.1 (by omega) h2.1 (by omega)] at h
  have := Nat.or_eq_zero_iff.1 (show a.toNat ||| b.toNat = 0 by omega)
  omega
def or6 (z1 z2 z3 z4 z5 z6 : Int) : Int := bits .or .u64 (bits .or .u64 (bits .or .u64 (bits .or .u64 (bits .or .u64 z1 z2) z3) z4) z5) z6
theorem or6_z {z1 z2 z3 z4 z5 z6 : Int} (w1 : W64 z1) (w2 : W64 z2) (w3 : W64 z3) (w4 : W64 z4) (w5 : W64 z5) (w6 : W64 z6) (h : or6 z1 z2 z3 z4 z5 z6 = 0) : z1 = 0 ∧ z2 = 0 ∧ z3 = 0 ∧ z4 = 0 ∧ z5 = 0 ∧ z6 = 0 := by
  unfold or6 at h
  have o1 := or_w w1 w2; have o2 := or_w o1 w3; have o3 := or_w o2 w4; have o4 := or_w o3 w5
  obtain ⟨h, e6⟩ := or_z o4 w6 h; obtain ⟨h, e5⟩ := or_z o3 w5 h; obtain ⟨h, e4⟩ := or_z o2 w4 h; obtain ⟨h, e3⟩ := or_z o1 w3 h; obtain ⟨h, e2⟩ := or_z w1 w2 h
  exact ⟨h, e2, e3, e4, e5, e6⟩
theorem or6_n {z1 z2 z3 z4 z5 z6 : Int} (h : or6 z1 z2 z3 z4 z5 z6 ≠ 0) : z1 ≠ 0 ∨ z2 ≠ 0 ∨ z3 ≠ 0 ∨ z4 ≠ 0 ∨ z5 ≠ 0 ∨ z6 ≠ 0 := by
  by_cases h1 : z1 = 0
  · by_cases h2 : z2 = 0
    · by_cases h3 : z3 = 0
      · by_cases h4 : z4 = 0
        · by_cases h5 : z5 = 0
          · by_cases h6 : z6 = 0
            · subst h1; subst h2; subst h3; subst h4; subst h5; subst h6; exact absurd (by decide) h
            · simp [h6]
          · simp [h5]
        · simp [h4]
      · simp [h3]
    · simp [h2]
  · simp [h1]
def PQ (w : World) (A : Option Addr) (g gx : Nat) (os : List Nat) : Prop := os ≠ [] → ∃ b, A = some ⟨b, 0, none⟩ ∧ b ≠ gx ∧ Blk w b 60 (os.map fun o => .pointer (some ⟨g, o, none⟩))
theorem blk_ne_of {w : World} {g g' : Nat} {t t' : TypeId} {l l' : List Value} (h : Blk w g t l) (h' : Blk w g' t' l') (ne : t ≠ t') : g ≠ g' := by
  rintro rfl
  have := h.out.symm.trans h'.out
  simp only [Option.some.injEq, Obj.cells.injEq] at this
  exact ne this.2.1
theorem PR.below {w w1 : World} {A : Option Addr} {g : Nat} {os : List Nat} (h : PR w A g os) (hb : Below w.heap.size w w1) : PR w1 A g os := fun hn => let ⟨b, e, B⟩ := h hn; ⟨b, e, B.below hb⟩
theorem PR.grown {w w1 : World} {A : Option Addr} {g k : Nat} {os : List Nat} {l : List Value} (h : PR w A g os) (hk : Blk w k 27 l) (hg : w.grownBy w1 (some k)) : PR w1 A g os := fun hn => let ⟨b, e, B⟩ := h hn; ⟨b, e, B.grown hg (blk_ne_of B hk (by decide))⟩
theorem PR.pq {w : World} {A : Option Addr} {g gx : Nat} {os : List Nat} {l : List Value} (h : PR w A g os) (hk : Blk w gx 27 l) : PQ w A g gx os := fun hn => let ⟨b, e, B⟩ := h hn; ⟨b, e, blk_ne_of B hk (by decide), B⟩
theorem PQ.set {w : World} {A : Option Addr} {g gx i : Nat} {os : List Nat} {u : Value} (h : PQ w A g gx os) : PQ (w.setCell ⟨gx, i, none⟩ u) A g gx os := fun hn => let ⟨b, e, n, B⟩ := h hn; ⟨b, e, n, B.setFar n⟩
def uTail (a0 a2 : Int) (a7 : Bool) (n : Nat) : Int := if a0 ≠ 14 ∧ (a7 = true ∨ 0 < n) then 50 else if 1200 < n ∨ 4611686018427387903 - (n : Int) < a2 then 50 else 0
def frame_Check.f (k : Nat) (a0 a1 a2 a3 a4 a5 a6 : Int) (a7 : Bool) (l8 : List Int) (l9 : List S47) : Option Int :=
  if W64 a1 ∧ W64 a2 ∧ W64 a3 ∧ W64 a4 ∧ W64 a5 ∧ W64 a6 ∧ l8.length < 1000000 ∧ l9.length < 1000000 then
    match fOffs a0 with
    | none => some 50
    | some os => if uBad os a1 a2 a3 a4 a5 a6 = true then some 50
      else if a0 = 2 ∨ a0 = 3 then (frame_spans.f k l9).bind fun s => if s = true then some (uTail a0 a2 a7 l8.length) else some 50
      else if 0 < l9.length then some 50 else some (uTail a0 a2 a7 l8.length)
  else none
theorem frame_Check.mono : ∀ a0 a1 a2 a3 a4 a5 a6 a7 l8 l9 k, LeO (frame_Check.f k a0 a1 a2 a3 a4 a5 a6 a7 l8 l9) (frame_Check.f (k + 1) a0 a1 a2 a3 a4 a5 a6 a7 l8 l9) := by
  intro a0 a1 a2 a3 a4 a5 a6 a7 l8 l9 k
  unfold frame_Check.f
  refine LeO.ite ?_ (LeO.none _)
  split
  · exact LeO.refl _
  · refine LeO.ite (LeO.refl _) (LeO.ite ?_ (LeO.refl _))
    exact LeO.bind (frame_spans.mono _ _) (fun _ => LeO.refl _)
theorem tail_a {a0 a2 : Int} {a7 : Bool} {n : Nat} (h : (a0 != 14) = true) (h1 : a7 = true ∨ 0 < n) : (50 : Int) = uTail a0 a2 a7 n := by unfold uTail; rw [if_pos ⟨by simpa using h, h1⟩]
theorem tail_b {a0 a2 : Int} {a7 : Bool} {n : Nat} (h : (1200 : Int) < n ∨ 4611686018427387903 - (n : Int) < a2) : (50 : Int) = uTail a0 a2 a7 n := by
  unfold uTail
  split
  · rfl
  · rw [if_pos (by omega)]
theorem tail_c {a0 a2 : Int} {a7 : Bool} {n : Nat} (h : ¬ a7 = true) (h0 : ¬ 0 < n) (h1 : (n : Int) ≤ 1200 ∧ a2 ≤ 4611686018427387903 - (n : Int)) : (0 : Int) = uTail a0 a2 a7 n := by
  unfold uTail
  rw [if_neg (fun hh => hh.2.elim h h0), if_neg (by omega)]
theorem tail_d {a0 a2 : Int} {a7 : Bool} {n : Nat} (h : (a0 != 14) = false) (h1 : (n : Int) ≤ 1200 ∧ a2 ≤ 4611686018427387903 - (n : Int)) : (0 : Int) = uTail a0 a2 a7 n := by
  unfold uTail
  rw [if_neg (fun hh => by simp at h; exact hh.1 h), if_neg (by omega)]
theorem frame_Check.no (a0 a1 a2 a3 a4 a5 a6 : Int) (a7 : Bool) (A8 : Option Addr) (c8 : Nat) (l8 : List Int) (A9 : Option Addr) (c9 : Nat) (l9 : List S47) (w : World) (h0 : fOffs a0 = none) :
    Calls Try.prog 15 #[.agg #[.int .i64 a0, .int .u64 a1, .int .u64 a2, .int .u64 a3, .int .u64 a4, .int .u64 a5, .int .u64 a6, .bool a7, .slice A8 l8.length c8, .slice A9 l9.length c9]] w fun e w' => e = .returned (.int .i64 50) ∧ Below w.heap.size w w' := by
  have hu := Try.underlying27
  go_enter Try.func15, Try.ntmps15
  go_wp2_with ((go_at_call 26); with_reducible refine (fields_no a0 _ _ (by go_simp) h0).mono ?_; rintro e w' ⟨rfl, rfl⟩)
  go_ret
  exact ⟨rfl, below_alloc (Below.refl _ _) _⟩
theorem frame_Check.way (k : Nat) (a0 a1 a2 a3 a4 a5 a6 : Int) (a7 : Bool) (A8 : Option Addr) (c8 : Nat) (l8 : List Int) (A9 : Option Addr) (c9 : Nat) (l9 : List S47) (w : World) (r : Int) (os : List Nat) (ho : fOffs a0 = some os) (W1 : W64 a1) (W2 : W64 a2) (W3 : W64 a3) (W4 : W64 a4) (W5 : W64 a5) (W6 : W64 a6) (h8 : l8.length < 1000000) (h9 : l9.length < 1000000) (hr9 : Kd.C k47 w A9 l9.length l9) (hc9 : l9.length ≤ c9) (h : Aside0 ((if uBad os a1 a2 a3 a4 a5 a6 = true then some 50 else if a0 = 2 ∨ a0 = 3 then (frame_spans.f k l9).bind fun s => if s = true then some (uTail a0 a2 a7 l8.length) else some 50 else if 0 < l9.length then some 50 else some (uTail a0 a2 a7 l8.length)) = some r)) :
    Calls Try.prog 15 #[.agg #[.int .i64 a0, .int .u64 a1, .int .u64 a2, .int .u64 a3, .int .u64 a4, .int .u64 a5, .int .u64 a6, .bool a7, .slice A8 l8.length c8, .slice A9 l9.length c9]] w fun e w' => e = .returned (.int .i64 r) ∧ Below w.heap.size w w' := by
  have hu27 := Try.underlying27
  have HS := Since.refl w
  obtain ⟨hm, hl3⟩ := fOffs_mem ho
  have HR9 := Aside0.mk hr9
  clear hr9
  go_enter Try.func15, Try.ntmps15
  go_wp2_with (first | (refine seg_new rfl (N := 1) rfl [.int .i64 a0, .int .u64 a1, .int .u64 a2, .int .u64 a3, .int .u64 a4, .int .u64 a5, .int .u64 a6, .bool a7, .slice A8 l8.length c8, .slice A9 l9.length c9] 27 ?hr ?_; (case hr => rfl); intro g0 hg w1 hn hl; have GEg0 := ge_new HS hg; clear hg; replace HS := HS.below hl; have Bg0 := hn; clear hl hn) | ((go_at_call 26); (with_reducible refine (fieldsC a0 g0 os _ (Bg0.at 0 rfl) ho).mono ?_); rintro e w2 ⟨A1, rfl, hP1, hl⟩; replace Bg0 := Bg0.below hl; replace HS := HS.below hl; clear hl) | (refine seg_load rfl (N := 17) rfl 27 (.tmp 1) rfl g0 0 [.int .i64 a0, .int .u64 a1, .int .u64 a2, .int .u64 a3, .int .u64 a4, .int .u64 a5, .int .u64 a6, .bool a7, .slice A8 l8.length c8, .slice A9 l9.length c9] rfl Bg0 rfl Try.underlying27 rfl (by kernel_rfl) ?_) | (refine seg_new rfl (N := 5) rfl [.int .i64 0, .int .u64 0, .int .u64 0, .int .u64 0, .int .u64 0, .int .u64 0, .int .u64 0, .bool false, .slice none 0 0, .slice none 0 0] 27 ?hr ?_; (case hr => rfl); intro g1 hg w3 hn hl; have Ng1_g0 := ne_new Bg0 hg; have GEg1 := ge_new HS hg; clear hg; replace Bg0 := Bg0.below hl; replace hP1 := hP1.below hl; replace HS := HS.below hl; have Bg1 := hn; clear hl hn) | (refine seg_store rfl rfl 27 (.tmp 5) (.tmp 17) rfl g1 0 [.int .i64 a0, .int .u64 a1, .int .u64 a2, .int .u64 a3, .int .u64 a4, .int .u64 a5, .int .u64 a6, .bool a7, .slice A8 l8.length c8, .slice A9 l9.length c9] [.int .i64 a0, .int .u64 a1, .int .u64 a2, .int .u64 a3, .int .u64 a4, .int .u64 a5, .int .u64 a6, .bool a7, .slice A8 l8.length c8, .slice A9 l9.length c9] (.agg #[.int .i64 a0, .int .u64 a1, .int .u64 a2, .int .u64 a3, .int .u64 a4, .int .u64 a5, .int .u64 a6, .bool a7, .slice A8 l8.length c8, .slice A9 l9.length c9]) rfl rfl rfl Bg1 (by kernel_rfl) (nle rfl) rfl rfl ?_; intro w4 hn hw; replace Bg0 := Bg0.grown hw Ng1_g0.symm; replace hP1 := hP1.grown Bg1 hw; replace HS := HS.grown hw GEg1; replace Bg1 := hn; clear hw; clear hn) | ((go_at_call 26); (with_reducible refine (fieldsC a0 g1 os _ (Bg1.at 0 rfl) ho).mono ?_); rintro e w5 ⟨A2, rfl, hP2, hl⟩; replace Bg0 := Bg0.below hl; replace Bg1 := Bg1.below hl; replace hP1 := hP1.below hl; replace HS := HS.below hl; clear hl))
  go_loopw [24] (fun i wr => ∃ q : Nat, i = .int .i64 q ∧ q ≤ os.length ∧ (∀ o ∈ os.take q, selA o a1 a2 a3 a4 a5 a6 ≤ 4611686018427387903) ∧ Blk wr g0 27 [.int .i64 a0, .int .u64 a1, .int .u64 a2, .int .u64 a3, .int .u64 a4, .int .u64 a5, .int .u64 a6, .bool a7, .slice A8 l8.length c8, .slice A9 l9.length c9] ∧ Blk wr g1 27 (cellsZ (os.take q) a0 a1 a2 a3 a4 a5 a6 a7 (.slice A8 l8.length c8) (.slice A9 l9.length c9)) ∧ PQ wr A1 g0 g1 os ∧ PQ wr A2 g1 g1 os ∧ Since w wr) (fun i _ => os.length - (intOf i).toNat)
  case atStart => exact ⟨0, rfl, Nat.zero_le _, by simp, Bg0, by rw [List.take_zero, cellsZ_nil]; exact Bg1, hP1.pq Bg1, hP2.pq Bg1, HS⟩
  case round =>
    clear hP1 hP2 Bg0 Bg1 HS
    obtain ⟨q, rfl, hq, hle, Bg0, Bg1, P1, P2, HS⟩ := hrel
    by_cases hlt : q < os.length
    · obtain ⟨o, hoq⟩ : ∃ o, os[q]? = some o := ⟨_, List.getElem?_eq_getElem hlt⟩
      have hom := List.mem_of_getElem? hoq
      have hmo := hm o hom
      have hne : os ≠ [] := by intro e; simp [e] at hlt
      obtain ⟨b1, hA1, n1, C1⟩ := P1 hne
      obtain ⟨b2, hA2, n2, C2⟩ := P2 hne
      have k1 : wr.cell? ⟨b1, q, none⟩ = some (.pointer (some ⟨g0, o, none⟩)) := (C1.cell q).trans (by simp [hoq])
      have k2 : wr.cell? ⟨b2, q, none⟩ = some (.pointer (some ⟨g1, o, none⟩)) := (C2.cell q).trans (by simp [hoq])
      have k3 : wr.cell? ⟨g0, o, none⟩ = some (.int .u64 (selA o a1 a2 a3 a4 a5 a6)) := (Bg0.cell o).trans (by rw [← cellsZ_nil, cellsZ_at [] o hmo.1 hmo.2]; simp [zf])
      have k4 : wr.cell? ⟨g1, o, none⟩ = some (.int .u64 (zf (os.take q) o (selA o a1 a2 a3 a4 a5 a6))) := (Bg1.cell o).trans (cellsZ_at _ o hmo.1 hmo.2 ..)
      have k5 := Bg1.frozen o
      have htk : os.take (q + 1) = os.take q ++ [o] := by rw [List.take_add_one, hoq]; rfl
      have hset := cellsZ_set (os.take q) o hmo.1 hmo.2 a0 a1 a2 a3 a4 a5 a6 a7 (.slice A8 l8.length c8) (.slice A9 l9.length c9)
      have hbad : 4611686018427387903 < (selA o a1 a2 a3 a4 a5 a6) → uBad os a1 a2 a3 a4 a5 a6 = true := fun hg => bad_of hom hmo hg
      have hle2 : (selA o a1 a2 a3 a4 a5 a6) ≤ 4611686018427387903 → ∀ o ∈ os.take (q + 1), selA o a1 a2 a3 a4 a5 a6 ≤ 4611686018427387903 := fun hg x hx => by
        rw [htk, List.mem_append, List.mem_singleton] at hx
        rcases hx with hx | rfl
        · exact hle x hx
        · exact hg
      generalize (selA o a1 a2 a3 a4 a5 a6) = v at *
      have T1 := Aside0.mk htk; have T2 := Aside0.mk hset; have T3 := Aside0.mk hoq
      clear htk hset hoq hmo hom hne hle hm ho
      go_wp2
      · have hg : 4611686018427387903 < v := by assumption
        obtain rfl : r = 50 := by have := h.out; rw [if_pos (hbad hg)] at this; exact (Option.some.inj this).symm
        go_ret
        exact ⟨rfl, HS.out⟩
      · have hg : v ≤ 4611686018427387903 := by first | assumption | omega
        go_roundw
        case rel => exact ⟨q + 1, by go_num, by omega, hle2 hg, Bg0.setFar Ng1_g0.symm, by rw [T1.out]; exact Bg1.set o _ T2.out, P1.set, P2.set, HS.set GEg1⟩
        case measure => simp [intOf]; omega
    · obtain rfl : q = os.length := by omega
      rw [List.take_length] at hle Bg1
      have kz1 := Bg1.at 1 rfl; have kz2 := Bg1.at 2 rfl; have kz3 := Bg1.at 3 rfl; have kz4 := Bg1.at 4 rfl; have kz5 := Bg1.at 5 rfl; have kz6 := Bg1.at 6 rfl
      have w1 := zf_w (os := os) (o := 1) W1; have w2 := zf_w (os := os) (o := 2) W2; have w3 := zf_w (os := os) (o := 3) W3; have w4 := zf_w (os := os) (o := 4) W4; have w5 := zf_w (os := os) (o := 5) W5; have w6 := zf_w (os := os) (o := 6) W6
      have hno := fun z1 z2 z3 z4 z5 z6 => bad_no (os := os) (a1 := a1) (a2 := a2) (a3 := a3) (a4 := a4) (a5 := a5) (a6 := a6) hle z1 z2 z3 z4 z5 z6
      have hz1 := bad_z (os := os) (o := 1) (a := a1); have hz2 := bad_z (os := os) (o := 2) (a := a2); have hz3 := bad_z (os := os) (o := 3) (a := a3); have hz4 := bad_z (os := os) (o := 4) (a := a4); have hz5 := bad_z (os := os) (o := 5) (a := a5); have hz6 := bad_z (os := os) (o := 6) (a := a6)
      generalize zf os 1 a1 = z1 at *; generalize zf os 2 a2 = z2 at *; generalize zf os 3 a3 = z3 at *; generalize zf os 4 a4 = z4 at *; generalize zf os 5 a5 = z5 at *; generalize zf os 6 a6 = z6 at *
      have hor : (or6 z1 z2 z3 z4 z5 z6 = 0 ∧ uBad os a1 a2 a3 a4 a5 a6 = false) ∨ (or6 z1 z2 z3 z4 z5 z6 ≠ 0 ∧ uBad os a1 a2 a3 a4 a5 a6 = true) := by
        by_cases hz : or6 z1 z2 z3 z4 z5 z6 = 0
        · obtain ⟨e1, e2, e3, e4, e5, e6⟩ := or6_z w1 w2 w3 w4 w5 w6 hz
          exact .inl ⟨hz, hno e1 e2 e3 e4 e5 e6⟩
        · refine .inr ⟨hz, ?_⟩
          unfold uBad
          rcases or6_n hz with e | e | e | e | e | e
          · rw [hz1 e]; simp
          · rw [hz2 e]; simp
          · rw [hz3 e]; simp
          · rw [hz4 e]; simp
          · rw [hz5 e]; simp
          · rw [hz6 e]; simp
      clear hno hz1 hz2 hz3 hz4 hz5 hz6 hle hm ho w1 w2 w3 w4 w5 w6
      rcases hor with ⟨hz, hb⟩ | ⟨hz, hb⟩
      · have hz' : (or6 z1 z2 z3 z4 z5 z6 != 0) = false := by simp [hz]
        clear hz; unfold or6 at hz'
        have H := h.out; rw [hb] at H; simp only [Bool.false_eq_true, if_false] at H
        clear h hb
        have kf0 := Bg0.at 0 rfl; have kf2 := Bg0.at 2 rfl; have kf7 := Bg0.at 7 rfl; have kf8 := Bg0.at 8 rfl; have kf9 := Bg0.at 9 rfl
        by_cases hak : a0 = 2 ∨ a0 = 3
        · rw [if_pos hak] at H
          obtain ⟨s, hs, H⟩ := Option.bind_eq_some_iff.1 H
          have HR := Kd.C_below HR9.out HS.out
          have hn14 : (a0 != 14) = true := by rcases hak with rfl | rfl <;> rfl
          have hkk : (a0 == 2) = true ∨ ((a0 == 2) = false ∧ (a0 == 3) = true) := by rcases hak with rfl | rfl <;> simp
          have HB := HS
          cases s with
          | false =>
            obtain rfl : r = 50 := by simpa using H.symm
            clear H hak
            rcases hkk with e2 | ⟨e2, e3⟩
            all_goals
              go_wp2_with ((go_at_call 29); with_reducible refine (frame_spans.calls k A9 c9 l9 false _ HR hc9 hs).mono ?_; rintro e w6 ⟨rfl, hl⟩; replace HB := HB.below hl; clear hl)
              go_ret
              exact ⟨rfl, HB.out⟩
          | true =>
            obtain rfl : uTail a0 a2 a7 l8.length = r := by simpa using H
            clear H
            rcases hkk with e2 | ⟨e2, e3⟩
            all_goals
              go_wp2_with ((go_at_call 29); with_reducible refine (frame_spans.calls k A9 c9 l9 true _ HR hc9 hs).mono ?_; rintro e w6 ⟨rfl, hl⟩; replace HB := HB.below hl; replace Bg0 := Bg0.below hl; clear kf0 kf2 kf7 kf8 kf9; have kf0 := Bg0.at 0 rfl; have kf2 := Bg0.at 2 rfl; have kf7 := Bg0.at 7 rfl; have kf8 := Bg0.at 8 rfl; clear hl)
              all_goals (go_ret; exact ⟨ret_int (by first | exact tail_a hn14 (.inl ‹_›) | exact tail_a hn14 (.inr ‹_›) | exact tail_b ‹_› | exact tail_c ‹_› ‹_› ‹_› | exact tail_b (by omega) | exact tail_d hn14 (by omega) | exact tail_c ‹_› ‹_› (by omega)), HB.out⟩)
        · rw [if_neg hak] at H
          have e2 : (a0 == 2) = false := by simp; omega
          have e3 : (a0 == 3) = false := by simp; omega
          have HB := HS
          by_cases hl9 : 0 < l9.length
          · obtain rfl : r = 50 := by rw [if_pos hl9] at H; exact (Option.some.inj H).symm
            clear H hak
            go_wp2
            go_ret
            exact ⟨rfl, HB.out⟩
          · obtain rfl : uTail a0 a2 a7 l8.length = r := by rw [if_neg hl9] at H; simpa using H
            clear H hak
            by_cases h14 : a0 = 14
            · have hn14 : (a0 != 14) = false := by simp [h14]
              clear h14
              go_wp2
              all_goals (go_ret; exact ⟨ret_int (by first | exact tail_a hn14 (.inl ‹_›) | exact tail_a hn14 (.inr ‹_›) | exact tail_b ‹_› | exact tail_c ‹_› ‹_› ‹_› | exact tail_b (by omega) | exact tail_d hn14 (by omega) | exact tail_c ‹_› ‹_› (by omega)), HB.out⟩)
            · have hn14 : (a0 != 14) = true := by simpa using h14
              clear h14
              go_wp2
              all_goals (go_ret; exact ⟨ret_int (by first | exact tail_a hn14 (.inl ‹_›) | exact tail_a hn14 (.inr ‹_›) | exact tail_b ‹_› | exact tail_c ‹_› ‹_› ‹_› | exact tail_b (by omega) | exact tail_d hn14 (by omega) | exact tail_c ‹_› ‹_› (by omega)), HB.out⟩)
      · have hz' : (or6 z1 z2 z3 z4 z5 z6 != 0) = true := by simpa using hz
        obtain rfl : r = 50 := by have := h.out; rw [if_pos hb] at this; exact (Option.some.inj this).symm
        clear hz h hb; unfold or6 at hz'
        go_wp2
        go_ret
        exact ⟨rfl, HS.out⟩

theorem frame_Check.calls (k : Nat) (a0 a1 a2 a3 a4 a5 a6 : Int) (a7 : Bool) (A8 : Option Addr) (c8 : Nat) (l8 : List Int) (A9 : Option Addr) (c9 : Nat) (l9 : List S47) (r : Int) (w : World) (hr8 : Kd.C (Kd.int .u8) w A8 l8.length l8) (hc8 : l8.length ≤ c8) (hr9 : Kd.C k47 w A9 l9.length l9) (hc9 : l9.length ≤ c9) (h : frame_Check.f k a0 a1 a2 a3 a4 a5 a6 a7 l8 l9 = some r) :
    Calls Try.prog 15 #[.agg #[.int .i64 a0, .int .u64 a1, .int .u64 a2, .int .u64 a3, .int .u64 a4, .int .u64 a5, .int .u64 a6, .bool a7, .slice A8 l8.length c8, .slice A9 l9.length c9]] w fun e w' => e = .returned (.int .i64 r) ∧ Below w.heap.size w w' := by
  unfold frame_Check.f at h
  split at h
  · rename_i hw
    obtain ⟨W1, W2, W3, W4, W5, W6, h8, h9⟩ := hw
    cases ho : fOffs a0 with
    | none =>
      rw [ho] at h
      obtain rfl : 50 = r := by simpa using h
      exact frame_Check.no a0 a1 a2 a3 a4 a5 a6 a7 A8 c8 l8 A9 c9 l9 w ho
    | some os =>
      rw [ho] at h
      exact frame_Check.way k a0 a1 a2 a3 a4 a5 a6 a7 A8 c8 l8 A9 c9 l9 w r os ho W1 W2 W3 W4 W5 W6 h8 h9 hr9 hc9 ⟨h⟩
  · cases h


end Go.Proofs.Ytphakdfholkbdaa.PFra
