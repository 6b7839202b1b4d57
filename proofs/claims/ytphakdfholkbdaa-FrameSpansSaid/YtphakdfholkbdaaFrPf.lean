import Derived.Outline
import Derived.Handy
import Derived.Recover
import Derived.WalkSmall
import Derived.Laws.Externs
import Derived.Laws.CopyOwn
import Derived.Lib.AppendZerosOnto
import Derived.Lib.Overlaps
import Derived.Deep.RegionLaw
import Derived.Test.YtphakdfholkbdaaPFrax0
import Derived.Test.YtphakdfholkbdaaNum
import Derived.Test.YtphakdfholkbdaaSeg
import Derived.Test.YtphakdfholkbdaaFraB
import Derived.Test.YtphakdfholkbdaaFrPa
import Derived.Test.YtphakdfholkbdaaPFrax5
namespace Go.Proofs.Ytphakdfholkbdaa
open Go.Proofs.Ytphakdfholkbdaa.PFra Go.RowKit Go.Proofs.YtphakdfholkbdaaW.PrintWords Go.Proofs.YtphakdfholkbdaaW.PrintLast Go.Proofs.YtphakdfholkbdaaW.PrintMore
set_option maxRecDepth 100000
set_option maxHeartbeats 4000000
set_option linter.unusedVariables false
set_option linter.unusedSimpArgs false
theorem dfields_0 (g : Nat) (w : World) (hk : w.cell? ⟨g, 1, none⟩ = some (.int .i64 0)) : Calls Try.prog 26 #[.pointer (some ⟨g, 1, none⟩)] w (FPost g [] w) := by
  have hu := Try.underlying27
  go_enter Try.func26, Try.ntmps26
  go_wp2_with ((go_at_call 39); with_reducible refine (fields1 _ _).mono ?_; rintro e w' ⟨rfl, rfl⟩)
  all_goals go_ret2
  all_goals exact ⟨_, rfl, fun h => absurd rfl h, Below.refl _ _⟩
theorem dfields_1 (g : Nat) (w : World) (hk : w.cell? ⟨g, 1, none⟩ = some (.int .i64 1)) : Calls Try.prog 26 #[.pointer (some ⟨g, 1, none⟩)] w (FPost g [] w) := by
  have hu := Try.underlying27
  go_enter Try.func26, Try.ntmps26
  go_wp2_with ((go_at_call 39); with_reducible refine (fields1 _ _).mono ?_; rintro e w' ⟨rfl, rfl⟩)
  all_goals go_ret2
  all_goals exact ⟨_, rfl, fun h => absurd rfl h, Below.refl _ _⟩
theorem dfields_30 (g : Nat) (w : World) (hk : w.cell? ⟨g, 1, none⟩ = some (.int .i64 30)) : Calls Try.prog 26 #[.pointer (some ⟨g, 1, none⟩)] w (FPost g [] w) := by
  have hu := Try.underlying27
  go_enter Try.func26, Try.ntmps26
  go_wp2_with ((go_at_call 39); with_reducible refine (fields1 _ _).mono ?_; rintro e w' ⟨rfl, rfl⟩)
  all_goals go_ret2
  all_goals exact ⟨_, rfl, fun h => absurd rfl h, Below.refl _ _⟩
theorem dfields_2 (g : Nat) (w : World) (hk : w.cell? ⟨g, 1, none⟩ = some (.int .i64 2)) : Calls Try.prog 26 #[.pointer (some ⟨g, 1, none⟩)] w (FPost g [6] w) := by
  have hu := Try.underlying27
  go_enter Try.func26, Try.ntmps26
  go_wp2_with ((go_at_call 39); with_reducible refine (fields1 _ _).mono ?_; rintro e w' ⟨rfl, rfl⟩)
  all_goals go_ret2
  all_goals exact ⟨_, rfl, fun _ => ⟨_, rfl, by first | exact blkNew _ [.pointer (some ⟨g, 6, none⟩)] 60 | exact (blkNew _ [.pointer (some ⟨g, 6, none⟩)] 60).drew⟩, by first | exact below_alloc (Below.refl _ _) _ | exact below_drew1 (below_alloc (Below.refl _ _) _) | exact below_alloc (below_drew1 (Below.refl _ _)) _⟩
theorem dfields_3 (g : Nat) (w : World) (hk : w.cell? ⟨g, 1, none⟩ = some (.int .i64 3)) : Calls Try.prog 26 #[.pointer (some ⟨g, 1, none⟩)] w (FPost g [6, 7] w) := by
  have hu := Try.underlying27
  go_enter Try.func26, Try.ntmps26
  go_wp2_with ((go_at_call 39); with_reducible refine (fields1 _ _).mono ?_; rintro e w' ⟨rfl, rfl⟩)
  go_region_with ((go_at_call 39); with_reducible refine (fields1 _ _).mono ?_; rintro e w' ⟨rfl, rfl⟩)
  all_goals go_wp2
  all_goals go_ret2
  all_goals exact ⟨_, rfl, fun _ => ⟨_, rfl, by first | exact blkNew _ [.pointer (some ⟨g, 6, none⟩), .pointer (some ⟨g, 7, none⟩)] 60 | exact (blkNew _ [.pointer (some ⟨g, 6, none⟩), .pointer (some ⟨g, 7, none⟩)] 60).drew⟩, by first | exact below_alloc (Below.refl _ _) _ | exact below_drew1 (below_alloc (Below.refl _ _) _) | exact below_alloc (below_drew1 (Below.refl _ _)) _⟩
theorem dfields_4 (g : Nat) (w : World) (hk : w.cell? ⟨g, 1, none⟩ = some (.int .i64 4)) : Calls Try.prog 26 #[.pointer (some ⟨g, 1, none⟩)] w (FPost g [2, 5, 4] w) := by
  have hu := Try.underlying27
  go_enter Try.func26, Try.ntmps26
  go_wp2_with ((go_at_call 39); with_reducible refine (fields1 _ _).mono ?_; rintro e w' ⟨rfl, rfl⟩)
  go_region_with ((go_at_call 39); with_reducible refine (fields1 _ _).mono ?_; rintro e w' ⟨rfl, rfl⟩)
  all_goals go_wp2
  all_goals go_ret2
  all_goals exact ⟨_, rfl, fun _ => ⟨_, rfl, by first | exact blkNew _ [.pointer (some ⟨g, 2, none⟩), .pointer (some ⟨g, 5, none⟩), .pointer (some ⟨g, 4, none⟩)] 60 | exact (blkNew _ [.pointer (some ⟨g, 2, none⟩), .pointer (some ⟨g, 5, none⟩), .pointer (some ⟨g, 4, none⟩)] 60).drew⟩, by first | exact below_alloc (Below.refl _ _) _ | exact below_drew1 (below_alloc (Below.refl _ _) _) | exact below_alloc (below_drew1 (Below.refl _ _)) _⟩
theorem dfields_5 (g : Nat) (w : World) (hk : w.cell? ⟨g, 1, none⟩ = some (.int .i64 5)) : Calls Try.prog 26 #[.pointer (some ⟨g, 1, none⟩)] w (FPost g [2, 5] w) := by
  have hu := Try.underlying27
  go_enter Try.func26, Try.ntmps26
  go_wp2_with ((go_at_call 39); with_reducible refine (fields1 _ _).mono ?_; rintro e w' ⟨rfl, rfl⟩)
  go_region_with ((go_at_call 39); with_reducible refine (fields1 _ _).mono ?_; rintro e w' ⟨rfl, rfl⟩)
  all_goals go_wp2
  all_goals go_ret2
  all_goals exact ⟨_, rfl, fun _ => ⟨_, rfl, by first | exact blkNew _ [.pointer (some ⟨g, 2, none⟩), .pointer (some ⟨g, 5, none⟩)] 60 | exact (blkNew _ [.pointer (some ⟨g, 2, none⟩), .pointer (some ⟨g, 5, none⟩)] 60).drew⟩, by first | exact below_alloc (Below.refl _ _) _ | exact below_drew1 (below_alloc (Below.refl _ _) _) | exact below_alloc (below_drew1 (Below.refl _ _)) _⟩
theorem dfields_6 (g : Nat) (w : World) (hk : w.cell? ⟨g, 1, none⟩ = some (.int .i64 6)) : Calls Try.prog 26 #[.pointer (some ⟨g, 1, none⟩)] w (FPost g [4, 3, 2] w) := by
  have hu := Try.underlying27
  go_enter Try.func26, Try.ntmps26
  go_wp2_with ((go_at_call 39); with_reducible refine (fields1 _ _).mono ?_; rintro e w' ⟨rfl, rfl⟩)
  go_region_with ((go_at_call 39); with_reducible refine (fields1 _ _).mono ?_; rintro e w' ⟨rfl, rfl⟩)
  all_goals go_wp2
  all_goals go_ret2
  all_goals exact ⟨_, rfl, fun _ => ⟨_, rfl, by first | exact blkNew _ [.pointer (some ⟨g, 4, none⟩), .pointer (some ⟨g, 3, none⟩), .pointer (some ⟨g, 2, none⟩)] 60 | exact (blkNew _ [.pointer (some ⟨g, 4, none⟩), .pointer (some ⟨g, 3, none⟩), .pointer (some ⟨g, 2, none⟩)] 60).drew⟩, by first | exact below_alloc (Below.refl _ _) _ | exact below_drew1 (below_alloc (Below.refl _ _) _) | exact below_alloc (below_drew1 (Below.refl _ _)) _⟩
theorem dfields_14 (g : Nat) (w : World) (hk : w.cell? ⟨g, 1, none⟩ = some (.int .i64 14)) : Calls Try.prog 26 #[.pointer (some ⟨g, 1, none⟩)] w (FPost g [2, 3] w) := by
  have hu := Try.underlying27
  go_enter Try.func26, Try.ntmps26
  go_wp2_with ((go_at_call 39); with_reducible refine (fields1 _ _).mono ?_; rintro e w' ⟨rfl, rfl⟩)
  go_region_with ((go_at_call 39); with_reducible refine (fields1 _ _).mono ?_; rintro e w' ⟨rfl, rfl⟩)
  all_goals go_wp2
  all_goals go_ret2
  all_goals exact ⟨_, rfl, fun _ => ⟨_, rfl, by first | exact blkNew _ [.pointer (some ⟨g, 2, none⟩), .pointer (some ⟨g, 3, none⟩)] 60 | exact (blkNew _ [.pointer (some ⟨g, 2, none⟩), .pointer (some ⟨g, 3, none⟩)] 60).drew⟩, by first | exact below_alloc (Below.refl _ _) _ | exact below_drew1 (below_alloc (Below.refl _ _) _) | exact below_alloc (below_drew1 (Below.refl _ _)) _⟩
theorem dfields_16 (g : Nat) (w : World) (hk : w.cell? ⟨g, 1, none⟩ = some (.int .i64 16)) : Calls Try.prog 26 #[.pointer (some ⟨g, 1, none⟩)] w (FPost g [4] w) := by
  have hu := Try.underlying27
  go_enter Try.func26, Try.ntmps26
  go_wp2_with ((go_at_call 39); with_reducible refine (fields1 _ _).mono ?_; rintro e w' ⟨rfl, rfl⟩)
  all_goals go_ret2
  all_goals exact ⟨_, rfl, fun _ => ⟨_, rfl, by first | exact blkNew _ [.pointer (some ⟨g, 4, none⟩)] 60 | exact (blkNew _ [.pointer (some ⟨g, 4, none⟩)] 60).drew⟩, by first | exact below_alloc (Below.refl _ _) _ | exact below_drew1 (below_alloc (Below.refl _ _) _) | exact below_alloc (below_drew1 (Below.refl _ _)) _⟩
theorem dfields_18 (g : Nat) (w : World) (hk : w.cell? ⟨g, 1, none⟩ = some (.int .i64 18)) : Calls Try.prog 26 #[.pointer (some ⟨g, 1, none⟩)] w (FPost g [4] w) := by
  have hu := Try.underlying27
  go_enter Try.func26, Try.ntmps26
  go_wp2_with ((go_at_call 39); with_reducible refine (fields1 _ _).mono ?_; rintro e w' ⟨rfl, rfl⟩)
  all_goals go_ret2
  all_goals exact ⟨_, rfl, fun _ => ⟨_, rfl, by first | exact blkNew _ [.pointer (some ⟨g, 4, none⟩)] 60 | exact (blkNew _ [.pointer (some ⟨g, 4, none⟩)] 60).drew⟩, by first | exact below_alloc (Below.refl _ _) _ | exact below_drew1 (below_alloc (Below.refl _ _) _) | exact below_alloc (below_drew1 (Below.refl _ _)) _⟩
theorem dfields_20 (g : Nat) (w : World) (hk : w.cell? ⟨g, 1, none⟩ = some (.int .i64 20)) : Calls Try.prog 26 #[.pointer (some ⟨g, 1, none⟩)] w (FPost g [4] w) := by
  have hu := Try.underlying27
  go_enter Try.func26, Try.ntmps26
  go_wp2_with ((go_at_call 39); with_reducible refine (fields1 _ _).mono ?_; rintro e w' ⟨rfl, rfl⟩)
  all_goals go_ret2
  all_goals exact ⟨_, rfl, fun _ => ⟨_, rfl, by first | exact blkNew _ [.pointer (some ⟨g, 4, none⟩)] 60 | exact (blkNew _ [.pointer (some ⟨g, 4, none⟩)] 60).drew⟩, by first | exact below_alloc (Below.refl _ _) _ | exact below_drew1 (below_alloc (Below.refl _ _) _) | exact below_alloc (below_drew1 (Below.refl _ _)) _⟩
theorem dfields_17 (g : Nat) (w : World) (hk : w.cell? ⟨g, 1, none⟩ = some (.int .i64 17)) : Calls Try.prog 26 #[.pointer (some ⟨g, 1, none⟩)] w (FPost g [2, 4] w) := by
  have hu := Try.underlying27
  go_enter Try.func26, Try.ntmps26
  go_wp2_with ((go_at_call 39); with_reducible refine (fields1 _ _).mono ?_; rintro e w' ⟨rfl, rfl⟩)
  go_region_with ((go_at_call 39); with_reducible refine (fields1 _ _).mono ?_; rintro e w' ⟨rfl, rfl⟩)
  all_goals go_wp2
  all_goals go_ret2
  all_goals exact ⟨_, rfl, fun _ => ⟨_, rfl, by first | exact blkNew _ [.pointer (some ⟨g, 2, none⟩), .pointer (some ⟨g, 4, none⟩)] 60 | exact (blkNew _ [.pointer (some ⟨g, 2, none⟩), .pointer (some ⟨g, 4, none⟩)] 60).drew⟩, by first | exact below_alloc (Below.refl _ _) _ | exact below_drew1 (below_alloc (Below.refl _ _) _) | exact below_alloc (below_drew1 (Below.refl _ _)) _⟩
theorem dfields_21 (g : Nat) (w : World) (hk : w.cell? ⟨g, 1, none⟩ = some (.int .i64 21)) : Calls Try.prog 26 #[.pointer (some ⟨g, 1, none⟩)] w (FPost g [2, 4] w) := by
  have hu := Try.underlying27
  go_enter Try.func26, Try.ntmps26
  go_wp2_with ((go_at_call 39); with_reducible refine (fields1 _ _).mono ?_; rintro e w' ⟨rfl, rfl⟩)
  go_region_with ((go_at_call 39); with_reducible refine (fields1 _ _).mono ?_; rintro e w' ⟨rfl, rfl⟩)
  all_goals go_wp2
  all_goals go_ret2
  all_goals exact ⟨_, rfl, fun _ => ⟨_, rfl, by first | exact blkNew _ [.pointer (some ⟨g, 2, none⟩), .pointer (some ⟨g, 4, none⟩)] 60 | exact (blkNew _ [.pointer (some ⟨g, 2, none⟩), .pointer (some ⟨g, 4, none⟩)] 60).drew⟩, by first | exact below_alloc (Below.refl _ _) _ | exact below_drew1 (below_alloc (Below.refl _ _) _) | exact below_alloc (below_drew1 (Below.refl _ _)) _⟩
theorem dfields_28 (g : Nat) (w : World) (hk : w.cell? ⟨g, 1, none⟩ = some (.int .i64 28)) : Calls Try.prog 26 #[.pointer (some ⟨g, 1, none⟩)] w (FPost g [5] w) := by
  have hu := Try.underlying27
  go_enter Try.func26, Try.ntmps26
  go_wp2_with ((go_at_call 39); with_reducible refine (fields1 _ _).mono ?_; rintro e w' ⟨rfl, rfl⟩)
  all_goals go_ret2
  all_goals exact ⟨_, rfl, fun _ => ⟨_, rfl, by first | exact blkNew _ [.pointer (some ⟨g, 5, none⟩)] 60 | exact (blkNew _ [.pointer (some ⟨g, 5, none⟩)] 60).drew⟩, by first | exact below_alloc (Below.refl _ _) _ | exact below_drew1 (below_alloc (Below.refl _ _) _) | exact below_alloc (below_drew1 (Below.refl _ _)) _⟩
theorem dfields_no (a0 : Int) (g : Nat) (w : World) (hk : w.cell? ⟨g, 1, none⟩ = some (.int .i64 a0)) (hn : fOffs a0 = none) : Calls Try.prog 26 #[.pointer (some ⟨g, 1, none⟩)] w fun e w' => e = .returned (.tuple #[.slice none 0 0, .bool false]) ∧ w = w' := by
  have hu := Try.underlying27
  have h : a0 ≠ 0 ∧ a0 ≠ 1 ∧ a0 ≠ 30 ∧ a0 ≠ 2 ∧ a0 ≠ 3 ∧ a0 ≠ 4 ∧ a0 ≠ 5 ∧ a0 ≠ 6 ∧ a0 ≠ 14 ∧ a0 ≠ 16 ∧ a0 ≠ 18 ∧ a0 ≠ 20 ∧ a0 ≠ 17 ∧ a0 ≠ 21 ∧ a0 ≠ 28 := by
    unfold fOffs at hn
    repeat (first | omega | (split at hn; (· cases hn)))
  clear hn
  obtain ⟨n0, n1, n30, n2, n3, n4, n5, n6, n14, n16, n18, n20, n17, n21, n28⟩ := h
  have e0 : (a0 == 0) = false := beq_eq_false_iff_ne.mpr n0
  have e1 : (a0 == 1) = false := beq_eq_false_iff_ne.mpr n1
  have e30 : (a0 == 30) = false := beq_eq_false_iff_ne.mpr n30
  have e2 : (a0 == 2) = false := beq_eq_false_iff_ne.mpr n2
  have e3 : (a0 == 3) = false := beq_eq_false_iff_ne.mpr n3
  have e4 : (a0 == 4) = false := beq_eq_false_iff_ne.mpr n4
  have e5 : (a0 == 5) = false := beq_eq_false_iff_ne.mpr n5
  have e6 : (a0 == 6) = false := beq_eq_false_iff_ne.mpr n6
  have e14 : (a0 == 14) = false := beq_eq_false_iff_ne.mpr n14
  have e16 : (a0 == 16) = false := beq_eq_false_iff_ne.mpr n16
  have e18 : (a0 == 18) = false := beq_eq_false_iff_ne.mpr n18
  have e20 : (a0 == 20) = false := beq_eq_false_iff_ne.mpr n20
  have e17 : (a0 == 17) = false := beq_eq_false_iff_ne.mpr n17
  have e21 : (a0 == 21) = false := beq_eq_false_iff_ne.mpr n21
  have e28 : (a0 == 28) = false := beq_eq_false_iff_ne.mpr n28
  clear n0 n1 n30 n2 n3 n4 n5 n6 n14 n16 n18 n20 n17 n21 n28
  go_enter Try.func26, Try.ntmps26
  go_wp2
  go_ret2
  exact ⟨rfl, rfl⟩
theorem dfieldsC (a0 : Int) (g : Nat) (os : List Nat) (w : World) (hk : w.cell? ⟨g, 1, none⟩ = some (.int .i64 a0)) (hs : fOffs a0 = some os) : Calls Try.prog 26 #[.pointer (some ⟨g, 1, none⟩)] w (FPost g (os.map (· + 1)) w) := by
  unfold fOffs at hs
  split at hs
  · rename_i h
    obtain rfl := Option.some.inj hs
    rcases h with rfl | rfl | rfl
    · exact dfields_0 g w hk
    · exact dfields_1 g w hk
    · exact dfields_30 g w hk
  split at hs
  · rename_i h
    obtain rfl := Option.some.inj hs
    rcases h with rfl
    exact dfields_2 g w hk
  split at hs
  · rename_i h
    obtain rfl := Option.some.inj hs
    rcases h with rfl
    exact dfields_3 g w hk
  split at hs
  · rename_i h
    obtain rfl := Option.some.inj hs
    rcases h with rfl
    exact dfields_4 g w hk
  split at hs
  · rename_i h
    obtain rfl := Option.some.inj hs
    rcases h with rfl
    exact dfields_5 g w hk
  split at hs
  · rename_i h
    obtain rfl := Option.some.inj hs
    rcases h with rfl
    exact dfields_6 g w hk
  split at hs
  · rename_i h
    obtain rfl := Option.some.inj hs
    rcases h with rfl
    exact dfields_14 g w hk
  split at hs
  · rename_i h
    obtain rfl := Option.some.inj hs
    rcases h with rfl | rfl | rfl
    · exact dfields_16 g w hk
    · exact dfields_18 g w hk
    · exact dfields_20 g w hk
  split at hs
  · rename_i h
    obtain rfl := Option.some.inj hs
    rcases h with rfl | rfl
    · exact dfields_17 g w hk
    · exact dfields_21 g w hk
  split at hs
  · rename_i h
    obtain rfl := Option.some.inj hs
    rcases h with rfl
    exact dfields_28 g w hk
  cases hs

end Go.Proofs.Ytphakdfholkbdaa
