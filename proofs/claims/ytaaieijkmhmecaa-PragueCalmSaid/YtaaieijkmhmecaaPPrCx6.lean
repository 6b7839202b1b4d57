-- Written by a program of this session (wip/tools/xprint.py) for this claim.
import Derived.Test.YtaaieijkmhmecaaPPrCx0
import Derived.Test.YtaaieijkmhmecaaPPrCx1
import Derived.Test.YtaaieijkmhmecaaPPrCx4
import Derived.Test.YtaaieijkmhmecaaPPrCx5
namespace Go.Proofs.Ytaaieijkmhmecaa.PPrC
open Go.RowKit Go.Proofs.YtaaieijkmhmecaaW.PrintWords Go.Proofs.YtaaieijkmhmecaaW.PrintLast Go.Proofs.YtaaieijkmhmecaaW.PrintMore
attribute [local go_sem] max2_int min2_int max_two min_two max_three min_three max_four min_four   -- for this text's walks alone
set_option linter.unusedVariables false
set_option linter.unusedSimpArgs false

attribute [local go_sem high] eqA24
/-! ### wigwaglaw14_PragueCalm: function 7 -/
mutual
def wigwaglaw14_PragueCalm.l0 : Nat → List (S40) → Bool → Int → Int → Int → Int → Int → Int → Int → Int → Int → Bool → Int → Int → Int → Int → Option (Bool)
 | 0, _, _, _, _, _, _, _, _, _, _, _, _, _, _, _, _ => none
 | k + 1, x1, x5, x8, x194000, x194001, x194002, x194003, x194004, x194005, x194006, x194007, x194008, x199000, x199001, x199002, x199003 => if x8 < (x1.length : Int) then (wigwaglaw14_PragueCalm.j1 k x1 x5 x8 (decide (x8 < 200)) x194000 x194001 x194002 x194003 x194004 x194005 x194006 x194007 x194008 x199000 x199001 x199002 x199003) else (wigwaglaw14_PragueCalm.j1 k x1 x5 x8 false x194000 x194001 x194002 x194003 x194004 x194005 x194006 x194007 x194008 x199000 x199001 x199002 x199003)
def wigwaglaw14_PragueCalm.j1 : Nat → List (S40) → Bool → Int → Bool → Int → Int → Int → Int → Int → Int → Int → Int → Bool → Int → Int → Int → Int → Option (Bool)
 | 0, _, _, _, _, _, _, _, _, _, _, _, _, _, _, _, _, _ => none
 | k + 1, x1, x5, x8, x22, x194000, x194001, x194002, x194003, x194004, x194005, x194006, x194007, x194008, x199000, x199001, x199002, x199003 => if x22 = true then (if 0 ≤ x8 then (if x8 < (x1.length : Int) then (if ((rd_T40 x1 x8).f0) = 1 then ((prague_Ack.f x194000 x194001 x194002 x194003 x194004 x194005 x194006 x194007 x194008 ((rd_T40 x1 x8).f1.f0) ((rd_T40 x1 x8).f1.f1) ((rd_T40 x1 x8).f1.f2) ((rd_T40 x1 x8).f1.f3) ((rd_T40 x1 x8).f1.f4) ((rd_T40 x1 x8).f1.f5) ((rd_T40 x1 x8).f1.f6) ((rd_T40 x1 x8).f1.f7) ((rd_T40 x1 x8).f1.f8) ((rd_T40 x1 x8).f1.f9)).bind fun bt202 => ((reno_Ack.f x199000 x199001 x199002 x199003 ((rd_T40 x1 x8).f1.f1) ((rd_T40 x1 x8).f1.f2) ((rd_T40 x1 x8).f1.f8)).bind fun bt214 => (if ((rd_T40 x1 x8).f1.f3) ≥ x194007 then (if bt202.2.2.2.2.1 = (IntKind.u64.wrap (x194004 - (IntKind.u64.wrap (Int.tdiv x194004 16)))) then (if (((rd_T40 x1 x8).f1.f3) ≥ x194007) then (wigwaglaw14_PragueCalm.j2 k x1 x5 x8 false bt202.1 bt202.2.1 bt202.2.2.1 bt202.2.2.2.1 bt202.2.2.2.2.1 bt202.2.2.2.2.2.1 bt202.2.2.2.2.2.2.1 bt202.2.2.2.2.2.2.2.1 bt202.2.2.2.2.2.2.2.2 bt214.1 bt214.2.1 bt214.2.2.1 bt214.2.2.2) else (wigwaglaw14_PragueCalm.j2 k x1 x5 x8 (bt202.2.2.2.2.1 != x194004) bt202.1 bt202.2.1 bt202.2.2.1 bt202.2.2.2.1 bt202.2.2.2.2.1 bt202.2.2.2.2.2.1 bt202.2.2.2.2.2.2.1 bt202.2.2.2.2.2.2.2.1 bt202.2.2.2.2.2.2.2.2 bt214.1 bt214.2.1 bt214.2.2.1 bt214.2.2.2)) else (wigwaglaw14_PragueCalm.j2 k x1 x5 x8 true bt202.1 bt202.2.1 bt202.2.2.1 bt202.2.2.2.1 bt202.2.2.2.2.1 bt202.2.2.2.2.2.1 bt202.2.2.2.2.2.2.1 bt202.2.2.2.2.2.2.2.1 bt202.2.2.2.2.2.2.2.2 bt214.1 bt214.2.1 bt214.2.2.1 bt214.2.2.2)) else (if (((rd_T40 x1 x8).f1.f3) ≥ x194007) then (wigwaglaw14_PragueCalm.j2 k x1 x5 x8 false bt202.1 bt202.2.1 bt202.2.2.1 bt202.2.2.2.1 bt202.2.2.2.2.1 bt202.2.2.2.2.2.1 bt202.2.2.2.2.2.2.1 bt202.2.2.2.2.2.2.2.1 bt202.2.2.2.2.2.2.2.2 bt214.1 bt214.2.1 bt214.2.2.1 bt214.2.2.2) else (wigwaglaw14_PragueCalm.j2 k x1 x5 x8 (bt202.2.2.2.2.1 != x194004) bt202.1 bt202.2.1 bt202.2.2.1 bt202.2.2.2.1 bt202.2.2.2.2.1 bt202.2.2.2.2.2.1 bt202.2.2.2.2.2.2.1 bt202.2.2.2.2.2.2.2.1 bt202.2.2.2.2.2.2.2.2 bt214.1 bt214.2.1 bt214.2.2.1 bt214.2.2.2))))) else (if ((rd_T40 x1 x8).f0) = 3 then ((prague_Loss.f x194000 x194001 x194002 x194003 x194004 x194005 x194006 x194007 x194008 ((rd_T40 x1 x8).f3) ((rd_T40 x1 x8).f1.f0)).bind fun bt220 => ((reno_Loss.f x199000 x199001 x199002 x199003 ((rd_T40 x1 x8).f3) ((rd_T40 x1 x8).f1.f0)).bind fun bt231 => (if (!(bt220.1 == bt231.1) || (!(bt220.2.1 == bt231.2.1) || (!(bt220.2.2.1 == bt231.2.2.1) || (!(bt220.2.2.2.1 == bt231.2.2.2))))) = true then (none) else (wigwaglaw14_PragueCalm.l0 k x1 x5 (wrap64 (x8 + 1)) bt220.1 bt220.2.1 bt220.2.2.1 bt220.2.2.2.1 bt220.2.2.2.2.1 bt220.2.2.2.2.2.1 bt220.2.2.2.2.2.2.1 bt220.2.2.2.2.2.2.2.1 bt220.2.2.2.2.2.2.2.2 bt231.1 bt231.2.1 bt231.2.2.1 bt231.2.2.2)))) else (if ((rd_T40 x1 x8).f0) = 4 then ((prague_Collapse.f x194000 x194001 x194002 x194003 x194004 x194005 x194006 x194007 x194008).bind fun bt235 => ((reno_Collapse.f x199000 x199001 x199002 x199003).bind fun bt244 => (if (!(bt235.1 == bt244.1) || (!(bt235.2.1 == bt244.2.1) || (!(bt235.2.2.1 == bt244.2.2.1) || (!(bt235.2.2.2.1 == bt244.2.2.2))))) = true then (none) else (wigwaglaw14_PragueCalm.l0 k x1 x5 (wrap64 (x8 + 1)) bt235.1 bt235.2.1 bt235.2.2.1 bt235.2.2.2.1 bt235.2.2.2.2.1 bt235.2.2.2.2.2.1 bt235.2.2.2.2.2.2.1 bt235.2.2.2.2.2.2.2.1 bt235.2.2.2.2.2.2.2.2 bt244.1 bt244.2.1 bt244.2.2.1 bt244.2.2.2)))) else (if (!(x194000 == x199000) || (!(x194001 == x199001) || (!(x194002 == x199002) || (!(x194003 == x199003))))) = true then (none) else (wigwaglaw14_PragueCalm.l0 k x1 x5 (wrap64 (x8 + 1)) x194000 x194001 x194002 x194003 x194004 x194005 x194006 x194007 x194008 x199000 x199001 x199002 x199003))))) else (none)) else (none)) else (some x5)
def wigwaglaw14_PragueCalm.j2 : Nat → List (S40) → Bool → Int → Bool → Int → Int → Int → Int → Int → Int → Int → Int → Bool → Int → Int → Int → Int → Option (Bool)
 | 0, _, _, _, _, _, _, _, _, _, _, _, _, _, _, _, _, _ => none
 | k + 1, x1, x5, x8, x89, x194000, x194001, x194002, x194003, x194004, x194005, x194006, x194007, x194008, x199000, x199001, x199002, x199003 => if x89 = true then (none) else (if (!(x194000 == x199000) || (!(x194001 == x199001) || (!(x194002 == x199002) || (!(x194003 == x199003))))) = true then (none) else (wigwaglaw14_PragueCalm.l0 k x1 x5 (wrap64 (x8 + 1)) x194000 x194001 x194002 x194003 x194004 x194005 x194006 x194007 x194008 x199000 x199001 x199002 x199003))
end
def wigwaglaw14_PragueCalm.f (k : Nat) (a0 : Int) (l1 : List (S40)) : Option (Bool) := (wigwaglaw14_awake.f).bind fun t183 => ((prague_New.f a0).bind fun bt184 => ((reno_New.f).bind fun bt194 => (wigwaglaw14_PragueCalm.l0 k l1 t183 0 bt184.1 bt184.2.1 bt184.2.2.1 bt184.2.2.2.1 bt184.2.2.2.2.1 bt184.2.2.2.2.2.1 bt184.2.2.2.2.2.2.1 bt184.2.2.2.2.2.2.2.1 bt184.2.2.2.2.2.2.2.2 bt194.1 bt194.2.1 bt194.2.2.1 bt194.2.2.2)))
theorem wigwaglaw14_PragueCalm.mono_l : ∀ k, (∀ y0 y1 y2 y3 y4 y5 y6 y7 y8 y9 y10 y11 y12 y13 y14 y15, LeO (wigwaglaw14_PragueCalm.l0 k y0 y1 y2 y3 y4 y5 y6 y7 y8 y9 y10 y11 y12 y13 y14 y15) (wigwaglaw14_PragueCalm.l0 (k + 1) y0 y1 y2 y3 y4 y5 y6 y7 y8 y9 y10 y11 y12 y13 y14 y15)) ∧ (∀ y0 y1 y2 y3 y4 y5 y6 y7 y8 y9 y10 y11 y12 y13 y14 y15 y16, LeO (wigwaglaw14_PragueCalm.j1 k y0 y1 y2 y3 y4 y5 y6 y7 y8 y9 y10 y11 y12 y13 y14 y15 y16) (wigwaglaw14_PragueCalm.j1 (k + 1) y0 y1 y2 y3 y4 y5 y6 y7 y8 y9 y10 y11 y12 y13 y14 y15 y16)) ∧ (∀ y0 y1 y2 y3 y4 y5 y6 y7 y8 y9 y10 y11 y12 y13 y14 y15 y16, LeO (wigwaglaw14_PragueCalm.j2 k y0 y1 y2 y3 y4 y5 y6 y7 y8 y9 y10 y11 y12 y13 y14 y15 y16) (wigwaglaw14_PragueCalm.j2 (k + 1) y0 y1 y2 y3 y4 y5 y6 y7 y8 y9 y10 y11 y12 y13 y14 y15 y16))
 | 0 => ⟨fun _ _ _ _ _ _ _ _ _ _ _ _ _ _ _ _ r h => by simp [wigwaglaw14_PragueCalm.l0] at h, fun _ _ _ _ _ _ _ _ _ _ _ _ _ _ _ _ _ r h => by simp [wigwaglaw14_PragueCalm.j1] at h, fun _ _ _ _ _ _ _ _ _ _ _ _ _ _ _ _ _ r h => by simp [wigwaglaw14_PragueCalm.j2] at h⟩
 | k + 1 => by
  obtain ⟨ih0, ih1, ih2⟩ := wigwaglaw14_PragueCalm.mono_l k
  refine ⟨?_, ?_, ?_⟩
  ·intro y0 y1 y2 y3 y4 y5 y6 y7 y8 y9 y10 y11 y12 y13 y14 y15
   unfold wigwaglaw14_PragueCalm.l0
   repeat' first
   | (with_reducible exact ih0 _ _ _ _ _ _ _ _ _ _ _ _ _ _ _ _)
   | (with_reducible exact ih1 _ _ _ _ _ _ _ _ _ _ _ _ _ _ _ _ _)
   | (with_reducible exact ih2 _ _ _ _ _ _ _ _ _ _ _ _ _ _ _ _ _)
   | (with_reducible exact LeO.refl _)
   | (with_reducible exact LeO.none _)
   | (with_reducible refine LeO.ite ?_ ?_)
   | (with_reducible refine LeO.bind ?_ (fun _ => ?_))
   | exact LeO.none _
   | refine LeO.ite ?_ ?_
   | refine LeO.bind ?_ (fun _ => ?_)
  ·intro y0 y1 y2 y3 y4 y5 y6 y7 y8 y9 y10 y11 y12 y13 y14 y15 y16
   unfold wigwaglaw14_PragueCalm.j1
   repeat' first
   | (with_reducible exact ih0 _ _ _ _ _ _ _ _ _ _ _ _ _ _ _ _)
   | (with_reducible exact ih1 _ _ _ _ _ _ _ _ _ _ _ _ _ _ _ _ _)
   | (with_reducible exact ih2 _ _ _ _ _ _ _ _ _ _ _ _ _ _ _ _ _)
   | (with_reducible exact LeO.refl _)
   | (with_reducible exact LeO.none _)
   | (with_reducible refine LeO.ite ?_ ?_)
   | (with_reducible refine LeO.bind ?_ (fun _ => ?_))
   | exact LeO.none _
   | refine LeO.ite ?_ ?_
   | refine LeO.bind ?_ (fun _ => ?_)
  ·intro y0 y1 y2 y3 y4 y5 y6 y7 y8 y9 y10 y11 y12 y13 y14 y15 y16
   unfold wigwaglaw14_PragueCalm.j2
   repeat' first
   | (with_reducible exact ih0 _ _ _ _ _ _ _ _ _ _ _ _ _ _ _ _)
   | (with_reducible exact ih1 _ _ _ _ _ _ _ _ _ _ _ _ _ _ _ _ _)
   | (with_reducible exact ih2 _ _ _ _ _ _ _ _ _ _ _ _ _ _ _ _ _)
   | (with_reducible exact LeO.refl _)
   | (with_reducible exact LeO.none _)
   | (with_reducible refine LeO.ite ?_ ?_)
   | (with_reducible refine LeO.bind ?_ (fun _ => ?_))
   | exact LeO.none _
   | refine LeO.ite ?_ ?_
   | refine LeO.bind ?_ (fun _ => ?_)
theorem wigwaglaw14_PragueCalm.mono : ∀ a0 a1 k, LeO (wigwaglaw14_PragueCalm.f k a0 a1) (wigwaglaw14_PragueCalm.f (k + 1) a0 a1) := by
 intro a0 a1 k
 obtain ⟨ih0, ih1, ih2⟩ := wigwaglaw14_PragueCalm.mono_l k
 unfold wigwaglaw14_PragueCalm.f
 repeat' first
   | (with_reducible exact ih0 _ _ _ _ _ _ _ _ _ _ _ _ _ _ _ _)
   | (with_reducible exact ih1 _ _ _ _ _ _ _ _ _ _ _ _ _ _ _ _ _)
   | (with_reducible exact ih2 _ _ _ _ _ _ _ _ _ _ _ _ _ _ _ _ _)
   | (with_reducible exact LeO.refl _)
   | (with_reducible exact LeO.none _)
   | (with_reducible refine LeO.ite ?_ ?_)
   | (with_reducible refine LeO.bind ?_ (fun _ => ?_))
   | exact LeO.none _
   | refine LeO.ite ?_ ?_
   | refine LeO.bind ?_ (fun _ => ?_)
def wigwaglaw14_PragueCalm.T8 : Bool × List (List Nat × List Nat) := (true, [([], []), ([], []), ([0, 1], [0, 1]), ([2], [2]), ([3], [3]), ([4], [4]), ([], []), ([6], [6]), ([5, 7], [5, 7]), ([8, 0, 1, 2, 3, 4, 5, 6, 7, 8], [8])])
def wigwaglaw14_PragueCalm.B8 : List Nat := [0, 0, 3, 7, 15, 31, 0, 64, 255, 511]
theorem wigwaglaw14_PragueCalm.tab8 : rtab .any (opsOf Try.f7 8) = wigwaglaw14_PragueCalm.T8 := by kernel_rfl
theorem wigwaglaw14_PragueCalm.bits8 : waitsOk wigwaglaw14_PragueCalm.T8.2 wigwaglaw14_PragueCalm.B8 = true := by kernel_rfl
def wigwaglaw14_PragueCalm.T11 : Bool × List (List Nat × List Nat) := (true, [([], []), ([], []), ([], []), ([1, 2], [1, 2]), ([3], [3]), ([4], [4]), ([0, 5], [0, 5]), ([6, 6, 0, 1, 2, 3, 4, 5, 6], [6])])
def wigwaglaw14_PragueCalm.B11 : List Nat := [0, 0, 0, 6, 14, 30, 63, 127]
theorem wigwaglaw14_PragueCalm.tab11 : rtab .any (opsOf Try.f7 11) = wigwaglaw14_PragueCalm.T11 := by kernel_rfl
theorem wigwaglaw14_PragueCalm.bits11 : waitsOk wigwaglaw14_PragueCalm.T11.2 wigwaglaw14_PragueCalm.B11 = true := by kernel_rfl
def wigwaglaw14_PragueCalm.T12 : Bool × List (List Nat × List Nat) := (true, [([], []), ([], []), ([], []), ([1, 2], [1, 2]), ([3], [3]), ([4], [4]), ([5], [5]), ([], []), ([], []), ([7, 8], [7, 8]), ([9], [9]), ([10], [10]), ([11], [11]), ([], []), ([], []), ([13, 14], [13, 14]), ([15], [15]), ([16], [16]), ([17], [17]), ([0, 6, 12, 18], [0, 6, 12, 18]), ([19, 19, 0, 1, 2, 3, 4, 5, 6, 7, 8, 9, 10, 11, 12, 13, 14, 15, 16, 17, 18, 19], [19])])
def wigwaglaw14_PragueCalm.B12 : List Nat := [0, 0, 0, 6, 14, 30, 62, 0, 0, 384, 896, 1920, 3968, 0, 0, 24576, 57344, 122880, 253952, 524287, 1048575]
theorem wigwaglaw14_PragueCalm.tab12 : rtab .any (opsOf Try.f7 12) = wigwaglaw14_PragueCalm.T12 := by kernel_rfl
theorem wigwaglaw14_PragueCalm.bits12 : waitsOk wigwaglaw14_PragueCalm.T12.2 wigwaglaw14_PragueCalm.B12 = true := by kernel_rfl
def wigwaglaw14_PragueCalm.T16 : Bool × List (List Nat × List Nat) := (true, [([], []), ([], []), ([], []), ([1, 2], [1, 2]), ([3], [3]), ([4], [4]), ([], []), ([], []), ([6, 7], [6, 7]), ([8], [8]), ([9], [9]), ([10], [10]), ([0, 5, 11], [0, 5, 11]), ([12, 12, 0, 1, 2, 3, 4, 5, 6, 7, 8, 9, 10, 11, 12], [12])])
def wigwaglaw14_PragueCalm.B16 : List Nat := [0, 0, 0, 6, 14, 30, 0, 0, 192, 448, 960, 1984, 4095, 8191]
theorem wigwaglaw14_PragueCalm.tab16 : rtab .any (opsOf Try.f7 16) = wigwaglaw14_PragueCalm.T16 := by kernel_rfl
theorem wigwaglaw14_PragueCalm.bits16 : waitsOk wigwaglaw14_PragueCalm.T16.2 wigwaglaw14_PragueCalm.B16 = true := by kernel_rfl
def wigwaglaw14_PragueCalm.T17 : Bool × List (List Nat × List Nat) := (true, [([], []), ([], []), ([], []), ([1, 2], [1, 2]), ([3], [3]), ([4], [4]), ([], []), ([], []), ([6, 7], [6, 7]), ([8], [8]), ([9], [9]), ([10], [10]), ([0, 5, 11], [0, 5, 11]), ([12, 12, 0, 1, 2, 3, 4, 5, 6, 7, 8, 9, 10, 11, 12], [12])])
def wigwaglaw14_PragueCalm.B17 : List Nat := [0, 0, 0, 6, 14, 30, 0, 0, 192, 448, 960, 1984, 4095, 8191]
theorem wigwaglaw14_PragueCalm.tab17 : rtab .any (opsOf Try.f7 17) = wigwaglaw14_PragueCalm.T17 := by kernel_rfl
theorem wigwaglaw14_PragueCalm.bits17 : waitsOk wigwaglaw14_PragueCalm.T17.2 wigwaglaw14_PragueCalm.B17 = true := by kernel_rfl
set_option maxHeartbeats 8000000 in
set_option maxRecDepth 100000 in
theorem wigwaglaw14_PragueCalm.calls (k : Nat) (a0 : Int) (A1 : Option Addr) (c1 : Nat) (l1 : List (S40)) (r : Bool) (w : World) (hr1 : Kd.C k40 w A1 l1.length l1) (hc1 : l1.length ≤ c1) (h : wigwaglaw14_PragueCalm.f k a0 l1 = some r) :
  Calls Try.prog 7 #[.int .u64 a0, .slice A1 l1.length c1] w fun e w' => e = .returned (.bool r) ∧ Below w.heap.size w w' := by
 have hu26 := Try.underlying26
 have hu24 := Try.underlying24
 have hu32 := Try.underlying32
 have HR1 := Aside0.mk hr1
 have HC1 := Aside0.mk hc1
 clear hr1 hc1; have HB := Aside0.mk (Below.refl w.heap.size w)
 have H : ((wigwaglaw14_awake.f).bind fun t183 => ((prague_New.f a0).bind fun bt184 => ((reno_New.f).bind fun bt194 => (wigwaglaw14_PragueCalm.l0 k l1 t183 0 bt184.1 bt184.2.1 bt184.2.2.1 bt184.2.2.2.1 bt184.2.2.2.2.1 bt184.2.2.2.2.2.1 bt184.2.2.2.2.2.2.1 bt184.2.2.2.2.2.2.2.1 bt184.2.2.2.2.2.2.2.2 bt194.1 bt194.2.1 bt194.2.2.1 bt194.2.2.2)))) = some r := h
 clear h
 replace H := Option.bind_eq_some_iff.mp H
 obtain ⟨t183, A30, H⟩ := H
 replace H : ((prague_New.f a0).bind fun bt184 => ((reno_New.f).bind fun bt194 => (wigwaglaw14_PragueCalm.l0 k l1 t183 0 bt184.1 bt184.2.1 bt184.2.2.1 bt184.2.2.2.1 bt184.2.2.2.2.1 bt184.2.2.2.2.2.1 bt184.2.2.2.2.2.2.1 bt184.2.2.2.2.2.2.2.1 bt184.2.2.2.2.2.2.2.2 bt194.1 bt194.2.1 bt194.2.2.1 bt194.2.2.2))) = some r := H
 have A3 := Aside0.mk A30
 clear A30
 replace H := Option.bind_eq_some_iff.mp H
 obtain ⟨⟨t184, t185, t186, t187, t188, t189, t190, t191, t192⟩, A40, H⟩ := H
 replace H : ((reno_New.f).bind fun bt194 => (wigwaglaw14_PragueCalm.l0 k l1 t183 0 t184 t185 t186 t187 t188 t189 t190 t191 t192 bt194.1 bt194.2.1 bt194.2.2.1 bt194.2.2.2)) = some r := H
 have A4 := Aside0.mk A40
 clear A40
 replace H := Option.bind_eq_some_iff.mp H
 obtain ⟨⟨t194, t195, t196, t197⟩, A50, H⟩ := H
 replace H : (wigwaglaw14_PragueCalm.l0 k l1 t183 0 t184 t185 t186 t187 t188 t189 t190 t191 t192 t194 t195 t196 t197) = some r := H
 have A5 := Aside0.mk A50
 clear A50
 have H' := Aside0.mk H
 clear H
 go_enter Try.func7, Try.ntmps7
 go_wp2_with (first | ((with_reducible refine gate_callee (f := 8) rfl ?_); refine goesL_ (some 11) rfl rfl Try.func8 (by kernel_rfl) rfl #[] rfl (by (try simp only [List.map_toArray, List.map_cons, List.map_nil]); first | done | rfl | (simp only [List.length_drop, List.length_take]; rfl)) ?_; (with_reducible refine (wigwaglaw14_awake.calls  t183 _ A3.out).mono ?_); rintro e w6 ⟨rfl, hb⟩; refine ⟨_, rfl, ?_⟩; have n0_ := Aside0.mk (below_step (by repeat (first | (with_reducible first | exact HB.out | apply b1_ | apply b2_ | apply b3_) | exact HB.out)) hb); clear HB; have HB := n0_; clear n0_; (try clear hb); (try clear hb2); (try clear hk); (try clear hi)) | ((with_reducible refine gate_callee (f := 17) rfl ?_); refine goesL_ (some 13) rfl rfl Try.func17 (by kernel_rfl) rfl #[.int .u64 a0] rfl (by (try simp only [List.map_toArray, List.map_cons, List.map_nil]); first | done | rfl | (simp only [List.length_drop, List.length_take]; rfl)) ?_; (with_reducible refine (prague_New.calls a0 t184 t185 t186 t187 t188 t189 t190 t191 t192 _ A4.out).mono ?_); rintro e w7 ⟨rfl, hb⟩; refine ⟨_, rfl, ?_⟩; have n0_ := Aside0.mk (below_step (by repeat (first | (with_reducible first | exact HB.out | apply b1_ | apply b2_ | apply b3_) | exact HB.out)) hb); clear HB; have HB := n0_; clear n0_; (try clear hb); (try clear hb2); (try clear hk); (try clear hi)) | ((with_reducible refine gate_dst (N := 6) rfl ?_); refine box_event ?hg (N := 6) ?hd (cs := #[.int .u64 0, .int .u64 0, .int .u64 0, .int .u64 0, .int .u64 0, .int .u64 0, .int .u64 0, .int .u64 0, .bool false]) (t := 26) ?hr ?_; (case hd => rfl); (case hg => rfl); (case hr => first | (go_simp; done) | (go_simp; rfl)); intro gb193 hg w8 hbox hb; have n0_ := Aside0.mk (below_step (by repeat (first | (with_reducible first | exact HB.out | apply b1_ | apply b2_ | apply b3_) | exact HB.out)) hb); have n1_ := Aside0.mk (hbox); have n2_ := Aside0.mk ((by rw [hg]; exact (below_size (by repeat (first | (with_reducible first | exact HB.out | apply b1_ | apply b2_ | apply b3_) | exact HB.out))) : w.heap.size ≤ gb193)); have n3_ := Aside0.mk ((by rw [hg]; exact (below_size (by repeat (first | (with_reducible first | exact HB.out | apply b1_ | apply b2_ | apply b3_) | exact HB.out))) : w.heap.size ≤ gb193)); clear HB; have HB := n0_; have BK193 := n1_; have GW193 := n2_; have GE193 := n3_; clear n0_ n1_ n2_ n3_; clear hb hbox hg; obtain ⟨hcz9_0, hcz9_1, hcz9_2, hcz9_3, hcz9_4, hcz9_5, hcz9_6, hcz9_7, hcz9_8⟩ := cells9_ BK193.out; obtain ⟨hfz9_0, hfz9_1, hfz9_2, hfz9_3, hfz9_4, hfz9_5, hfz9_6, hfz9_7⟩ := froz8_ BK193.out; have hfz9_8 := blk_frozen BK193.out 8) | ((with_reducible refine gate_callee (f := 19) rfl ?_); refine goesL_ (some 14) rfl rfl Try.func19 (by kernel_rfl) rfl #[] rfl (by (try simp only [List.map_toArray, List.map_cons, List.map_nil]); first | done | rfl | (simp only [List.length_drop, List.length_take]; rfl)) ?_; (with_reducible refine (reno_New.calls  t194 t195 t196 t197 _ A5.out).mono ?_); rintro e w10 ⟨rfl, hb⟩; refine ⟨_, rfl, ?_⟩; have n0_ := Aside0.mk (blk_below (g := gb193) (o := .cells #[.int .u64 t184, .int .u64 t185, .int .u64 t186, .int .u64 t187, .int .u64 t188, .int .u64 t189, .int .u64 t190, .int .u64 t191, .bool t192] 26 (0, 0)) (by (with_reducible repeat first|apply bN_|apply bD_|apply bA_); refine blk_put (cs := #[.int .u64 t184, .int .u64 t185, .int .u64 t186, .int .u64 t187, .int .u64 t188, .int .u64 t189, .int .u64 t190, .int .u64 t191, .bool false]) ?_ 8 _ rfl; (with_reducible repeat first|apply bN_|apply bD_|apply bA_); refine blk_put (cs := #[.int .u64 t184, .int .u64 t185, .int .u64 t186, .int .u64 t187, .int .u64 t188, .int .u64 t189, .int .u64 t190, .int .u64 0, .bool false]) ?_ 7 _ rfl; (with_reducible repeat first|apply bN_|apply bD_|apply bA_); refine blk_put (cs := #[.int .u64 t184, .int .u64 t185, .int .u64 t186, .int .u64 t187, .int .u64 t188, .int .u64 t189, .int .u64 0, .int .u64 0, .bool false]) ?_ 6 _ rfl; (with_reducible repeat first|apply bN_|apply bD_|apply bA_); refine blk_put (cs := #[.int .u64 t184, .int .u64 t185, .int .u64 t186, .int .u64 t187, .int .u64 t188, .int .u64 0, .int .u64 0, .int .u64 0, .bool false]) ?_ 5 _ rfl; (with_reducible repeat first|apply bN_|apply bD_|apply bA_); refine blk_put (cs := #[.int .u64 t184, .int .u64 t185, .int .u64 t186, .int .u64 t187, .int .u64 0, .int .u64 0, .int .u64 0, .int .u64 0, .bool false]) ?_ 4 _ rfl; (with_reducible repeat first|apply bN_|apply bD_|apply bA_); refine blk_put (cs := #[.int .u64 t184, .int .u64 t185, .int .u64 t186, .int .u64 0, .int .u64 0, .int .u64 0, .int .u64 0, .int .u64 0, .bool false]) ?_ 3 _ rfl; (with_reducible repeat first|apply bN_|apply bD_|apply bA_); refine blk_put (cs := #[.int .u64 t184, .int .u64 t185, .int .u64 0, .int .u64 0, .int .u64 0, .int .u64 0, .int .u64 0, .int .u64 0, .bool false]) ?_ 2 _ rfl; (with_reducible repeat first|apply bN_|apply bD_|apply bA_); refine blk_put (cs := #[.int .u64 t184, .int .u64 0, .int .u64 0, .int .u64 0, .int .u64 0, .int .u64 0, .int .u64 0, .int .u64 0, .bool false]) ?_ 1 _ rfl; (with_reducible repeat first|apply bN_|apply bD_|apply bA_); refine blk_put (cs := #[.int .u64 0, .int .u64 0, .int .u64 0, .int .u64 0, .int .u64 0, .int .u64 0, .int .u64 0, .int .u64 0, .bool false]) ?_ 0 _ rfl; (with_reducible repeat first|apply bN_|apply bD_|apply bA_); exact BK193.out) hb); have n1_ := Aside0.mk (below_step (by repeat (first | (with_reducible first | exact HB.out | apply b1_ | apply b2_ | apply b3_ | refine bS_ ?_ GE193.out) | exact HB.out)) hb); clear BK193; clear HB; have BK193 := n0_; have HB := n1_; clear n0_ n1_; (try clear hb); (try clear hb2); (try clear hk); (try clear hi)) | ((with_reducible refine gate_dst (N := 7) rfl ?_); refine box_event ?hg (N := 7) ?hd (cs := #[.int .u64 0, .int .u64 0, .int .u64 0, .int .u64 0]) (t := 24) ?hr ?_; (case hd => rfl); (case hg => rfl); (case hr => first | (go_simp; done) | (go_simp; rfl)); intro gb198 hg w11 hbox hb; have n0_ := Aside0.mk (blk_below (g := gb193) (o := .cells #[.int .u64 t184, .int .u64 t185, .int .u64 t186, .int .u64 t187, .int .u64 t188, .int .u64 t189, .int .u64 t190, .int .u64 t191, .bool t192] 26 (0, 0)) (by (with_reducible repeat first|apply bN_|apply bD_|apply bA_); exact BK193.out) hb); have n1_ := Aside0.mk (below_step (by repeat (first | (with_reducible first | exact HB.out | apply b1_ | apply b2_ | apply b3_ | refine bS_ ?_ GE193.out) | exact HB.out)) hb); have n2_ := Aside0.mk (hbox); have n3_ := Aside0.mk ((by rw [hg]; exact (below_size (by repeat (first | (with_reducible first | exact HB.out | apply b1_ | apply b2_ | apply b3_ | refine bS_ ?_ GE193.out) | exact HB.out))) : w.heap.size ≤ gb198)); have n4_ := Aside0.mk ((by rw [hg]; exact (below_size (by repeat (first | (with_reducible first | exact HB.out | apply b1_ | apply b2_ | apply b3_ | refine bS_ ?_ GE193.out) | exact HB.out))) : w.heap.size ≤ gb198)); have n5_ := Aside0.mk ((by rw [hg]; exact Nat.ne_of_lt (blk_lt (g := gb193) (o := .cells #[.int .u64 t184, .int .u64 t185, .int .u64 t186, .int .u64 t187, .int .u64 t188, .int .u64 t189, .int .u64 t190, .int .u64 t191, .bool t192] 26 (0, 0)) (by (with_reducible repeat first|apply bN_|apply bD_|apply bA_); exact BK193.out)) : gb193 ≠ gb198)); have n6_ := Aside0.mk ((by rw [hg]; exact Nat.ne_of_gt (blk_lt (g := gb193) (o := .cells #[.int .u64 t184, .int .u64 t185, .int .u64 t186, .int .u64 t187, .int .u64 t188, .int .u64 t189, .int .u64 t190, .int .u64 t191, .bool t192] 26 (0, 0)) (by (with_reducible repeat first|apply bN_|apply bD_|apply bA_); exact BK193.out)) : gb198 ≠ gb193)); clear BK193; clear HB; have BK193 := n0_; have HB := n1_; have BK198 := n2_; have GW198 := n3_; have GE198 := n4_; have NB193_198 := n5_; have NB198_193 := n6_; clear n0_ n1_ n2_ n3_ n4_ n5_ n6_; clear hb hbox hg; have hnb12 := NB198_193.out; have hnc12 := NB193_198.out; obtain ⟨hcz13_0, hcz13_1, hcz13_2, hcz13_3⟩ := cells4_ BK198.out; obtain ⟨hfz13_0, hfz13_1, hfz13_2⟩ := froz3_ BK198.out; have hfz13_3 := blk_frozen BK198.out 3))
 go_loopg [8] k (fun kq v8 w' => ∃ (x8_1 : Int) (x194000_1 : Int) (x194001_1 : Int) (x194002_1 : Int) (x194003_1 : Int) (x194004_1 : Int) (x194005_1 : Int) (x194006_1 : Int) (x194007_1 : Int) (x194008_1 : Bool) (x199000_1 : Int) (x199001_1 : Int) (x199002_1 : Int) (x199003_1 : Int), v8 = .int .i64 x8_1 ∧ Aside0 (wigwaglaw14_PragueCalm.l0 kq l1 t183 x8_1 x194000_1 x194001_1 x194002_1 x194003_1 x194004_1 x194005_1 x194006_1 x194007_1 x194008_1 x199000_1 x199001_1 x199002_1 x199003_1 = some r) ∧ Aside0 (kq ≤ k) ∧ Aside0 (w'.heap[gb193]? = some (.cells #[.int .u64 x194000_1, .int .u64 x194001_1, .int .u64 x194002_1, .int .u64 x194003_1, .int .u64 x194004_1, .int .u64 x194005_1, .int .u64 x194006_1, .int .u64 x194007_1, .bool x194008_1] 26 (0, 0))) ∧ Aside0 (w'.heap[gb198]? = some (.cells #[.int .u64 x199000_1, .int .u64 x199001_1, .int .u64 x199002_1, .int .u64 x199003_1] 24 (0, 0))) ∧ Aside0 (Below w.heap.size w w'))
 case atStart => exact ⟨(0), (t184), (t185), (t186), (t187), (t188), (t189), (t190), (t191), (t192), (t194), (t195), (t196), (t197), (by first | rfl | (simp; done) | (simp [*]; done)), H', ⟨Nat.le_refl _⟩, ⟨by (with_reducible repeat first|apply bN_|apply bD_|apply bA_); refine blk_far ?_ NB193_198.out _; (with_reducible repeat first|apply bN_|apply bD_|apply bA_); refine blk_far ?_ NB193_198.out _; (with_reducible repeat first|apply bN_|apply bD_|apply bA_); refine blk_far ?_ NB193_198.out _; (with_reducible repeat first|apply bN_|apply bD_|apply bA_); refine blk_far ?_ NB193_198.out _; (with_reducible repeat first|apply bN_|apply bD_|apply bA_); exact BK193.out⟩, ⟨by (with_reducible repeat first|apply bN_|apply bD_|apply bA_); refine blk_put (cs := #[.int .u64 t194, .int .u64 t195, .int .u64 t196, .int .u64 0]) ?_ 3 _ rfl; (with_reducible repeat first|apply bN_|apply bD_|apply bA_); refine blk_put (cs := #[.int .u64 t194, .int .u64 t195, .int .u64 0, .int .u64 0]) ?_ 2 _ rfl; (with_reducible repeat first|apply bN_|apply bD_|apply bA_); refine blk_put (cs := #[.int .u64 t194, .int .u64 0, .int .u64 0, .int .u64 0]) ?_ 1 _ rfl; (with_reducible repeat first|apply bN_|apply bD_|apply bA_); refine blk_put (cs := #[.int .u64 0, .int .u64 0, .int .u64 0, .int .u64 0]) ?_ 0 _ rfl; (with_reducible repeat first|apply bN_|apply bD_|apply bA_); exact BK198.out⟩, ⟨by repeat (first | (with_reducible first | exact HB.out | apply b1_ | apply b2_ | apply b3_ | refine bS_ ?_ GE193.out | refine bS_ ?_ GE198.out) | exact HB.out)⟩⟩
 case round =>
  clear H'; (try clear c1); (try clear p2); (try clear c7); (try clear c8); (try clear c12)
  obtain ⟨x8_1, x194000_1, x194001_1, x194002_1, x194003_1, x194004_1, x194005_1, x194006_1, x194007_1, x194008_1, x199000_1, x199001_1, x199002_1, x199003_1, rfl, HA, HK1, BK193, BK198, HB⟩ := hrel
  cases gk with
  | zero => exact absurd HA.out (by simp [wigwaglaw14_PragueCalm.l0])
  | succ k1 =>
   have H := HA.out
   clear HA
   simp only [wigwaglaw14_PragueCalm.l0] at H
   have HC14 := Aside0.mk H
   clear H
   go_upto_region 5 with (fail)
   go_cut [22] (fun v22 wc => ∃ (kq : Nat) (x22_13 : Bool), v22 = .bool x22_13 ∧ Aside0 (wigwaglaw14_PragueCalm.j1 kq l1 t183 x8_1 x22_13 x194000_1 x194001_1 x194002_1 x194003_1 x194004_1 x194005_1 x194006_1 x194007_1 x194008_1 x199000_1 x199001_1 x199002_1 x199003_1 = some r) ∧ Aside0 (kq ≤ k1) ∧ Aside0 (wc.heap[gb193]? = some (.cells #[.int .u64 x194000_1, .int .u64 x194001_1, .int .u64 x194002_1, .int .u64 x194003_1, .int .u64 x194004_1, .int .u64 x194005_1, .int .u64 x194006_1, .int .u64 x194007_1, .bool x194008_1] 26 (0, 0))) ∧ Aside0 (wc.heap[gb198]? = some (.cells #[.int .u64 x199000_1, .int .u64 x199001_1, .int .u64 x199002_1, .int .u64 x199003_1] 24 (0, 0))) ∧ Aside0 (Below w.heap.size w wc))
   case first =>
    have H := HC14.out
    clear HC14
    by_cases c15 : x8_1 < (l1.length : Int)
    ·rw [if_pos c15] at H
     have c15b0 : decide (x8_1 < (l1.length : Int)) = true := decide_eq_true c15
     clear c15
     (first | rw [c15b0] | (simp only [i64_w, i32_w]; rw [c15b0]) | skip)
     have H' := Aside0.mk H
     clear H
     go_wp2
     go_meet
     case rel => exact ⟨_, (decide (x8_1 < 200)), (by first | rfl | (simp; done) | (simp [*]; done)), H', ⟨by have := HK1.out; first | omega | exact Nat.le_refl _⟩, ⟨by (with_reducible repeat first|apply bN_|apply bD_|apply bA_); exact BK193.out⟩, ⟨by (with_reducible repeat first|apply bN_|apply bD_|apply bA_); exact BK198.out⟩, ⟨by repeat (first | (with_reducible first | exact HB.out | apply b1_ | apply b2_ | apply b3_ | refine bS_ ?_ GE193.out | refine bS_ ?_ GE198.out) | exact HB.out)⟩⟩
    ·rw [if_neg c15] at H
     have c15b0 : decide (x8_1 < (l1.length : Int)) = false := decide_eq_false c15
     clear c15
     (first | rw [c15b0] | (simp only [i64_w, i32_w]; rw [c15b0]) | skip)
     have H' := Aside0.mk H
     clear H
     go_wp2
     go_meet
     case rel => exact ⟨_, (false), (by first | rfl | (simp; done) | (simp [*]; done)), H', ⟨by have := HK1.out; first | omega | exact Nat.le_refl _⟩, ⟨by (with_reducible repeat first|apply bN_|apply bD_|apply bA_); exact BK193.out⟩, ⟨by (with_reducible repeat first|apply bN_|apply bD_|apply bA_); exact BK198.out⟩, ⟨by repeat (first | (with_reducible first | exact HB.out | apply b1_ | apply b2_ | apply b3_ | refine bS_ ?_ GE193.out | refine bS_ ?_ GE198.out) | exact HB.out)⟩⟩
   case rest =>
    clear HC14; (try clear c1); (try clear p2); (try clear c7); (try clear c8); (try clear c12); (try clear c15); (try clear c15b0); (try clear p2)
    obtain ⟨kq, x22_13, rfl, HA, HJ13, BK193, BK198, HB⟩ := hcut
    cases kq with
    | zero => exact absurd HA.out (by simp [wigwaglaw14_PragueCalm.j1])
    | succ kj13 =>
     have H := HA.out
     clear HA
     simp only [wigwaglaw14_PragueCalm.j1] at H
     by_cases c16 : x22_13 = true
     ·subst c16
      have H1 : (if 0 ≤ x8_1 then (if x8_1 < (l1.length : Int) then (if ((rd_T40 l1 x8_1).f0) = 1 then ((prague_Ack.f x194000_1 x194001_1 x194002_1 x194003_1 x194004_1 x194005_1 x194006_1 x194007_1 x194008_1 ((rd_T40 l1 x8_1).f1.f0) ((rd_T40 l1 x8_1).f1.f1) ((rd_T40 l1 x8_1).f1.f2) ((rd_T40 l1 x8_1).f1.f3) ((rd_T40 l1 x8_1).f1.f4) ((rd_T40 l1 x8_1).f1.f5) ((rd_T40 l1 x8_1).f1.f6) ((rd_T40 l1 x8_1).f1.f7) ((rd_T40 l1 x8_1).f1.f8) ((rd_T40 l1 x8_1).f1.f9)).bind fun bt202 => ((reno_Ack.f x199000_1 x199001_1 x199002_1 x199003_1 ((rd_T40 l1 x8_1).f1.f1) ((rd_T40 l1 x8_1).f1.f2) ((rd_T40 l1 x8_1).f1.f8)).bind fun bt214 => (if ((rd_T40 l1 x8_1).f1.f3) ≥ x194007_1 then (if bt202.2.2.2.2.1 = (IntKind.u64.wrap (x194004_1 - (IntKind.u64.wrap (Int.tdiv x194004_1 16)))) then (if (((rd_T40 l1 x8_1).f1.f3) ≥ x194007_1) then (wigwaglaw14_PragueCalm.j2 kj13 l1 t183 x8_1 false bt202.1 bt202.2.1 bt202.2.2.1 bt202.2.2.2.1 bt202.2.2.2.2.1 bt202.2.2.2.2.2.1 bt202.2.2.2.2.2.2.1 bt202.2.2.2.2.2.2.2.1 bt202.2.2.2.2.2.2.2.2 bt214.1 bt214.2.1 bt214.2.2.1 bt214.2.2.2) else (wigwaglaw14_PragueCalm.j2 kj13 l1 t183 x8_1 (bt202.2.2.2.2.1 != x194004_1) bt202.1 bt202.2.1 bt202.2.2.1 bt202.2.2.2.1 bt202.2.2.2.2.1 bt202.2.2.2.2.2.1 bt202.2.2.2.2.2.2.1 bt202.2.2.2.2.2.2.2.1 bt202.2.2.2.2.2.2.2.2 bt214.1 bt214.2.1 bt214.2.2.1 bt214.2.2.2)) else (wigwaglaw14_PragueCalm.j2 kj13 l1 t183 x8_1 true bt202.1 bt202.2.1 bt202.2.2.1 bt202.2.2.2.1 bt202.2.2.2.2.1 bt202.2.2.2.2.2.1 bt202.2.2.2.2.2.2.1 bt202.2.2.2.2.2.2.2.1 bt202.2.2.2.2.2.2.2.2 bt214.1 bt214.2.1 bt214.2.2.1 bt214.2.2.2)) else (if (((rd_T40 l1 x8_1).f1.f3) ≥ x194007_1) then (wigwaglaw14_PragueCalm.j2 kj13 l1 t183 x8_1 false bt202.1 bt202.2.1 bt202.2.2.1 bt202.2.2.2.1 bt202.2.2.2.2.1 bt202.2.2.2.2.2.1 bt202.2.2.2.2.2.2.1 bt202.2.2.2.2.2.2.2.1 bt202.2.2.2.2.2.2.2.2 bt214.1 bt214.2.1 bt214.2.2.1 bt214.2.2.2) else (wigwaglaw14_PragueCalm.j2 kj13 l1 t183 x8_1 (bt202.2.2.2.2.1 != x194004_1) bt202.1 bt202.2.1 bt202.2.2.1 bt202.2.2.2.1 bt202.2.2.2.2.1 bt202.2.2.2.2.2.1 bt202.2.2.2.2.2.2.1 bt202.2.2.2.2.2.2.2.1 bt202.2.2.2.2.2.2.2.2 bt214.1 bt214.2.1 bt214.2.2.1 bt214.2.2.2))))) else (if ((rd_T40 l1 x8_1).f0) = 3 then ((prague_Loss.f x194000_1 x194001_1 x194002_1 x194003_1 x194004_1 x194005_1 x194006_1 x194007_1 x194008_1 ((rd_T40 l1 x8_1).f3) ((rd_T40 l1 x8_1).f1.f0)).bind fun bt220 => ((reno_Loss.f x199000_1 x199001_1 x199002_1 x199003_1 ((rd_T40 l1 x8_1).f3) ((rd_T40 l1 x8_1).f1.f0)).bind fun bt231 => (if (!(bt220.1 == bt231.1) || (!(bt220.2.1 == bt231.2.1) || (!(bt220.2.2.1 == bt231.2.2.1) || (!(bt220.2.2.2.1 == bt231.2.2.2))))) = true then (none) else (wigwaglaw14_PragueCalm.l0 kj13 l1 t183 (wrap64 (x8_1 + 1)) bt220.1 bt220.2.1 bt220.2.2.1 bt220.2.2.2.1 bt220.2.2.2.2.1 bt220.2.2.2.2.2.1 bt220.2.2.2.2.2.2.1 bt220.2.2.2.2.2.2.2.1 bt220.2.2.2.2.2.2.2.2 bt231.1 bt231.2.1 bt231.2.2.1 bt231.2.2.2)))) else (if ((rd_T40 l1 x8_1).f0) = 4 then ((prague_Collapse.f x194000_1 x194001_1 x194002_1 x194003_1 x194004_1 x194005_1 x194006_1 x194007_1 x194008_1).bind fun bt235 => ((reno_Collapse.f x199000_1 x199001_1 x199002_1 x199003_1).bind fun bt244 => (if (!(bt235.1 == bt244.1) || (!(bt235.2.1 == bt244.2.1) || (!(bt235.2.2.1 == bt244.2.2.1) || (!(bt235.2.2.2.1 == bt244.2.2.2))))) = true then (none) else (wigwaglaw14_PragueCalm.l0 kj13 l1 t183 (wrap64 (x8_1 + 1)) bt235.1 bt235.2.1 bt235.2.2.1 bt235.2.2.2.1 bt235.2.2.2.2.1 bt235.2.2.2.2.2.1 bt235.2.2.2.2.2.2.1 bt235.2.2.2.2.2.2.2.1 bt235.2.2.2.2.2.2.2.2 bt244.1 bt244.2.1 bt244.2.2.1 bt244.2.2.2)))) else (if (!(x194000_1 == x199000_1) || (!(x194001_1 == x199001_1) || (!(x194002_1 == x199002_1) || (!(x194003_1 == x199003_1))))) = true then (none) else (wigwaglaw14_PragueCalm.l0 kj13 l1 t183 (wrap64 (x8_1 + 1)) x194000_1 x194001_1 x194002_1 x194003_1 x194004_1 x194005_1 x194006_1 x194007_1 x194008_1 x199000_1 x199001_1 x199002_1 x199003_1))))) else (none)) else (none)) = some r := by rw [if_pos rfl] at H; exact H
      clear H
      have H := H1
      clear H1
      by_cases c17 : 0 ≤ x8_1
      ·rw [if_pos c17] at H
       have c17b0 : decide (0 ≤ x8_1) = true := decide_eq_true c17
       clear c17
       by_cases c18 : x8_1 < (l1.length : Int)
       ·rw [if_pos c18] at H
        have c18b0 : decide (x8_1 < (l1.length : Int)) = true := decide_eq_true c18
        clear c18
        by_cases c19 : ((rd_T40 l1 x8_1).f0) = 1
        ·rw [if_pos c19] at H
         have c19b0 : (((rd_T40 l1 x8_1).f0) == 1) = true := beq_iff_eq.mpr c19
         have c19b1 : (((rd_T40 l1 x8_1).f0) != 1) = false := bne_eq_false_iff_eq.mpr c19
         clear c19
         replace H := Option.bind_eq_some_iff.mp H
         obtain ⟨⟨t202, t203, t204, t205, t206, t207, t208, t209, t210⟩, A200, H⟩ := H
         replace H : ((reno_Ack.f x199000_1 x199001_1 x199002_1 x199003_1 ((rd_T40 l1 x8_1).f1.f1) ((rd_T40 l1 x8_1).f1.f2) ((rd_T40 l1 x8_1).f1.f8)).bind fun bt214 => (if ((rd_T40 l1 x8_1).f1.f3) ≥ x194007_1 then (if t206 = (IntKind.u64.wrap (x194004_1 - (IntKind.u64.wrap (Int.tdiv x194004_1 16)))) then (if (((rd_T40 l1 x8_1).f1.f3) ≥ x194007_1) then (wigwaglaw14_PragueCalm.j2 kj13 l1 t183 x8_1 false t202 t203 t204 t205 t206 t207 t208 t209 t210 bt214.1 bt214.2.1 bt214.2.2.1 bt214.2.2.2) else (wigwaglaw14_PragueCalm.j2 kj13 l1 t183 x8_1 (t206 != x194004_1) t202 t203 t204 t205 t206 t207 t208 t209 t210 bt214.1 bt214.2.1 bt214.2.2.1 bt214.2.2.2)) else (wigwaglaw14_PragueCalm.j2 kj13 l1 t183 x8_1 true t202 t203 t204 t205 t206 t207 t208 t209 t210 bt214.1 bt214.2.1 bt214.2.2.1 bt214.2.2.2)) else (if (((rd_T40 l1 x8_1).f1.f3) ≥ x194007_1) then (wigwaglaw14_PragueCalm.j2 kj13 l1 t183 x8_1 false t202 t203 t204 t205 t206 t207 t208 t209 t210 bt214.1 bt214.2.1 bt214.2.2.1 bt214.2.2.2) else (wigwaglaw14_PragueCalm.j2 kj13 l1 t183 x8_1 (t206 != x194004_1) t202 t203 t204 t205 t206 t207 t208 t209 t210 bt214.1 bt214.2.1 bt214.2.2.1 bt214.2.2.2)))) = some r := H
         have A20 := Aside0.mk A200
         clear A200
         replace H := Option.bind_eq_some_iff.mp H
         obtain ⟨⟨t214, t215, t216, t217⟩, A210, H⟩ := H
         replace H : (if ((rd_T40 l1 x8_1).f1.f3) ≥ x194007_1 then (if t206 = (IntKind.u64.wrap (x194004_1 - (IntKind.u64.wrap (Int.tdiv x194004_1 16)))) then (if (((rd_T40 l1 x8_1).f1.f3) ≥ x194007_1) then (wigwaglaw14_PragueCalm.j2 kj13 l1 t183 x8_1 false t202 t203 t204 t205 t206 t207 t208 t209 t210 t214 t215 t216 t217) else (wigwaglaw14_PragueCalm.j2 kj13 l1 t183 x8_1 (t206 != x194004_1) t202 t203 t204 t205 t206 t207 t208 t209 t210 t214 t215 t216 t217)) else (wigwaglaw14_PragueCalm.j2 kj13 l1 t183 x8_1 true t202 t203 t204 t205 t206 t207 t208 t209 t210 t214 t215 t216 t217)) else (if (((rd_T40 l1 x8_1).f1.f3) ≥ x194007_1) then (wigwaglaw14_PragueCalm.j2 kj13 l1 t183 x8_1 false t202 t203 t204 t205 t206 t207 t208 t209 t210 t214 t215 t216 t217) else (wigwaglaw14_PragueCalm.j2 kj13 l1 t183 x8_1 (t206 != x194004_1) t202 t203 t204 t205 t206 t207 t208 t209 t210 t214 t215 t216 t217))) = some r := H
         have A21 := Aside0.mk A210
         clear A210
         have HC22 := Aside0.mk H
         clear H; have hnb23 := NB193_198.out; have hnc23 := NB198_193.out; obtain ⟨hcz24_0, hcz24_1, hcz24_2, hcz24_3, hcz24_4, hcz24_5, hcz24_6, hcz24_7, hcz24_8⟩ := cells9_ BK193.out; obtain ⟨hfz24_0, hfz24_1, hfz24_2, hfz24_3, hfz24_4, hfz24_5, hfz24_6, hfz24_7, hfz24_8⟩ := froz9_ BK193.out
         try go_wp2
         have n0_ := Aside0.mk (blk_drew BK193.out); have n1_ := Aside0.mk (blk_drew BK198.out); have n2_ := Aside0.mk (below_drew1 HB.out); clear BK193; clear BK198; clear HB; have BK193 := n0_; have BK198 := n1_; have HB := n2_; clear n0_ n1_ n2_
         have p199 : 0 ≤ (x8_1 : Int) := of_decide_eq_true (by first | (with_reducible assumption) | assumption)
         have q199 : x8_1 < (l1.length : Int) := of_decide_eq_true (by first | (with_reducible assumption) | assumption)
         obtain ⟨ad199, e199, hx199_0, hx199_1, hx199_2, hx199_3, hx199_4, hx199_5, hx199_6, hx199_7, hx199_8, hx199_9, hx199_10, hx199_11, hx199_12⟩ := at_T40 HR1.out x8_1 p199 q199
         have hw199_12 := hx199_12
         have hw199_11 := hx199_11
         have hw199_10 := hx199_10
         have hw199_9 := hx199_9
         have hw199_8 := hx199_8
         have hw199_7 := hx199_7
         have hw199_6 := hx199_6
         have hw199_5 := hx199_5
         have hw199_4 := hx199_4
         have hw199_3 := hx199_3
         have hw199_2 := hx199_2
         have hw199_1 := hx199_1
         have hw199_0 := hx199_0
         cases e199
         replace hx199_0 := (HB.out.cell (World.block_lt_of_cell? w _ hx199_0)).trans hx199_0
         replace hx199_1 := (HB.out.cell (World.block_lt_of_cell? w _ hx199_1)).trans hx199_1
         replace hx199_2 := (HB.out.cell (World.block_lt_of_cell? w _ hx199_2)).trans hx199_2
         replace hx199_3 := (HB.out.cell (World.block_lt_of_cell? w _ hx199_3)).trans hx199_3
         replace hx199_4 := (HB.out.cell (World.block_lt_of_cell? w _ hx199_4)).trans hx199_4
         replace hx199_5 := (HB.out.cell (World.block_lt_of_cell? w _ hx199_5)).trans hx199_5
         replace hx199_6 := (HB.out.cell (World.block_lt_of_cell? w _ hx199_6)).trans hx199_6
         replace hx199_7 := (HB.out.cell (World.block_lt_of_cell? w _ hx199_7)).trans hx199_7
         replace hx199_8 := (HB.out.cell (World.block_lt_of_cell? w _ hx199_8)).trans hx199_8
         replace hx199_9 := (HB.out.cell (World.block_lt_of_cell? w _ hx199_9)).trans hx199_9
         replace hx199_10 := (HB.out.cell (World.block_lt_of_cell? w _ hx199_10)).trans hx199_10
         replace hx199_11 := (HB.out.cell (World.block_lt_of_cell? w _ hx199_11)).trans hx199_11
         replace hx199_12 := (HB.out.cell (World.block_lt_of_cell? w _ hx199_12)).trans hx199_12
         replace p199 := eq_true p199
         replace q199 := eq_true q199
         refine start_ (n := 10) (S := fun w' => w'.cell? ⟨gb193, 0, none⟩ = some (.int .u64 x194000_1) ∧ w'.cell? ⟨gb193, 1, none⟩ = some (.int .u64 x194001_1) ∧ w'.cell? ⟨gb193, 2, none⟩ = some (.int .u64 x194002_1) ∧ w'.cell? ⟨gb193, 3, none⟩ = some (.int .u64 x194003_1) ∧ w'.cell? ⟨gb193, 4, none⟩ = some (.int .u64 x194004_1) ∧ w'.cell? ⟨gb193, 5, none⟩ = some (.int .u64 x194005_1) ∧ w'.cell? ⟨gb193, 6, none⟩ = some (.int .u64 x194006_1) ∧ w'.cell? ⟨gb193, 7, none⟩ = some (.int .u64 x194007_1) ∧ w'.cell? ⟨gb193, 8, none⟩ = some (.bool x194008_1) ∧ w'.cell? (ad199.add ((x8_1).toNat * 13)) = some (.int .i64 ((rd_T40 l1 x8_1).f0)) ∧ w'.cell? ⟨(ad199.add ((x8_1).toNat * 13)).block, (ad199.add ((x8_1).toNat * 13)).off + 1, none⟩ = some (.int .u64 ((rd_T40 l1 x8_1).f1.f0)) ∧ w'.cell? ⟨(ad199.add ((x8_1).toNat * 13)).block, (ad199.add ((x8_1).toNat * 13)).off + 2, none⟩ = some (.int .u64 ((rd_T40 l1 x8_1).f1.f1)) ∧ w'.cell? ⟨(ad199.add ((x8_1).toNat * 13)).block, (ad199.add ((x8_1).toNat * 13)).off + 3, none⟩ = some (.int .u64 ((rd_T40 l1 x8_1).f1.f2)) ∧ w'.cell? ⟨(ad199.add ((x8_1).toNat * 13)).block, (ad199.add ((x8_1).toNat * 13)).off + 4, none⟩ = some (.int .u64 ((rd_T40 l1 x8_1).f1.f3)) ∧ w'.cell? ⟨(ad199.add ((x8_1).toNat * 13)).block, (ad199.add ((x8_1).toNat * 13)).off + 5, none⟩ = some (.int .u64 ((rd_T40 l1 x8_1).f1.f4)) ∧ w'.cell? ⟨(ad199.add ((x8_1).toNat * 13)).block, (ad199.add ((x8_1).toNat * 13)).off + 6, none⟩ = some (.int .u64 ((rd_T40 l1 x8_1).f1.f5)) ∧ w'.cell? ⟨(ad199.add ((x8_1).toNat * 13)).block, (ad199.add ((x8_1).toNat * 13)).off + 7, none⟩ = some (.int .u64 ((rd_T40 l1 x8_1).f1.f6)) ∧ w'.cell? ⟨(ad199.add ((x8_1).toNat * 13)).block, (ad199.add ((x8_1).toNat * 13)).off + 8, none⟩ = some (.int .u64 ((rd_T40 l1 x8_1).f1.f7)) ∧ w'.cell? ⟨(ad199.add ((x8_1).toNat * 13)).block, (ad199.add ((x8_1).toNat * 13)).off + 9, none⟩ = some (.bool ((rd_T40 l1 x8_1).f1.f8)) ∧ w'.cell? ⟨(ad199.add ((x8_1).toNat * 13)).block, (ad199.add ((x8_1).toNat * 13)).off + 10, none⟩ = some (.bool ((rd_T40 l1 x8_1).f1.f9)) ∧ w'.cell? ⟨(ad199.add ((x8_1).toNat * 13)).block, (ad199.add ((x8_1).toNat * 13)).off + 11, none⟩ = some (.int .u64 ((rd_T40 l1 x8_1).f2)) ∧ w'.cell? ⟨(ad199.add ((x8_1).toNat * 13)).block, (ad199.add ((x8_1).toNat * 13)).off + 12, none⟩ = some (.int .u64 ((rd_T40 l1 x8_1).f3))) (ds := []) #[false, false, false, false, false, false, false, false, false, false] (by kernel_rfl) rfl rfl ⟨(blk_cell BK193.out 0).trans rfl, (blk_cell BK193.out 1).trans rfl, (blk_cell BK193.out 2).trans rfl, (blk_cell BK193.out 3).trans rfl, (blk_cell BK193.out 4).trans rfl, (blk_cell BK193.out 5).trans rfl, (blk_cell BK193.out 6).trans rfl, (blk_cell BK193.out 7).trans rfl, (blk_cell BK193.out 8).trans rfl, ((HB.out.cell (World.block_lt_of_cell? w _ hw199_0)).trans hw199_0), ((HB.out.cell (World.block_lt_of_cell? w _ hw199_1)).trans hw199_1), ((HB.out.cell (World.block_lt_of_cell? w _ hw199_2)).trans hw199_2), ((HB.out.cell (World.block_lt_of_cell? w _ hw199_3)).trans hw199_3), ((HB.out.cell (World.block_lt_of_cell? w _ hw199_4)).trans hw199_4), ((HB.out.cell (World.block_lt_of_cell? w _ hw199_5)).trans hw199_5), ((HB.out.cell (World.block_lt_of_cell? w _ hw199_6)).trans hw199_6), ((HB.out.cell (World.block_lt_of_cell? w _ hw199_7)).trans hw199_7), ((HB.out.cell (World.block_lt_of_cell? w _ hw199_8)).trans hw199_8), ((HB.out.cell (World.block_lt_of_cell? w _ hw199_9)).trans hw199_9), ((HB.out.cell (World.block_lt_of_cell? w _ hw199_10)).trans hw199_10), ((HB.out.cell (World.block_lt_of_cell? w _ hw199_11)).trans hw199_11), ((HB.out.cell (World.block_lt_of_cell? w _ hw199_12)).trans hw199_12)⟩ (fun hHeld => ?_); refine with_tabW wigwaglaw14_PragueCalm.tab8 wigwaglaw14_PragueCalm.bits8 (fun HT_ HW_ => ?_)
         generalize wc.drew = w25 at BK193 BK198 HB hx199_0 hx199_1 hx199_10 hx199_11 hx199_12 hx199_2 hx199_3 hx199_4 hx199_5 hx199_6 hx199_7 hx199_8 hx199_9 hHeld ⊢
         refine pure_ (i := 0) (N := some 27) (v := ?_) (a' := ?_) #[true, false, false, false, false, false, false, false, false, false] rfl rfl (any_of HT_.out (by kernel_rfl)) (fun _ _ _ h => h) (Or.inl ⟨by rfl, ?_⟩) ?_ ?_
         rotate_left; focus (intro w'; go_simp; with_reducible rfl)
         rotate_left; focus (simp only [Act.put, sA_, s0_, s1_, i64_w, i32_w]; rfl)
         refine pure_ (i := 1) (N := some 28) (v := ?_) (a' := ?_) #[true, true, false, false, false, false, false, false, false, false] rfl rfl (any_of HT_.out (by kernel_rfl)) (fun _ _ _ h => h) (Or.inl ⟨by rfl, ?_⟩) ?_ ?_
         rotate_left; focus (intro w'; go_simp; with_reducible rfl)
         rotate_left; focus (simp only [Act.put, sA_, s0_, s1_, i64_w, i32_w]; rfl)
         refine pure_ (i := 2) (N := some 29) (v := ?_) (a' := ?_) #[true, true, true, false, false, false, false, false, false, false] rfl rfl (any_of HT_.out (by kernel_rfl)) (fun _ _ _ h => h) (Or.inl ⟨by rfl, ?_⟩) ?_ ?_
         rotate_left; focus (intro w'; go_simp; with_reducible rfl)
         rotate_left; focus (simp only [Act.put, sA_, s0_, s1_, i64_w, i32_w]; rfl)
         refine pure_ (i := 3) (N := some 30) (v := ?_) (a' := ?_) #[true, true, true, true, false, false, false, false, false, false] rfl rfl (any_of HT_.out (by kernel_rfl)) (fun _ _ _ h => h) (Or.inl ⟨by rfl, ?_⟩) ?_ ?_
         rotate_left; focus (intro w'; go_simp; with_reducible rfl)
         rotate_left; focus (simp only [Act.put, sA_, s0_, s1_, i64_w, i32_w]; rfl)
         refine pure_ (i := 4) (N := some 31) (v := ?_) (a' := ?_) #[true, true, true, true, true, false, false, false, false, false] rfl rfl (any_of HT_.out (by kernel_rfl)) (fun _ _ _ h => h) (Or.inl ⟨by rfl, ?_⟩) ?_ ?_
         rotate_left; focus (intro w'; go_simp; with_reducible rfl)
         rotate_left; focus (simp only [Act.put, sA_, s0_, s1_, i64_w, i32_w]; rfl)
         refine pure_ (i := 6) (N := some 33) (v := ?_) (a' := ?_) #[true, true, true, true, true, false, true, false, false, false] rfl rfl (any_of HT_.out (by kernel_rfl)) (fun _ _ _ h => h) (Or.inl ⟨by rfl, ?_⟩) ?_ ?_
         rotate_left; focus (intro w'; go_simp; with_reducible rfl)
         rotate_left; focus (simp only [Act.put, sA_, s0_, s1_, i64_w, i32_w]; rfl)
         refine take_ (i := 5) (N := some 32) (v := ?_) (a' := ?_) #[true, true, true, true, true, true, true, false, false, false] rfl rfl (take_ofW HT_.out HW_.out (by kernel_rfl)) (fun _ _ _ h => h) (Or.inl ⟨by rfl, ?_⟩) hHeld ?_ ?_
         rotate_left; focus (rintro w' ⟨s0, s1, s2, s3, s4, s5, s6, s7, s8, s9, s10, s11, s12, s13, s14, s15, s16, s17, s18, s19, s20, s21⟩; go_simp; with_reducible rfl)
         rotate_left; focus (simp only [Act.put, sA_, s0_, s1_, i64_w, i32_w]; rfl)
         refine take_ (i := 7) (N := some 34) (v := ?_) (a' := ?_) #[true, true, true, true, true, true, true, true, false, false] rfl rfl (take_ofW HT_.out HW_.out (by kernel_rfl)) (fun _ _ _ h => h) (Or.inl ⟨by rfl, ?_⟩) hHeld ?_ ?_
         rotate_left; focus (rintro w' ⟨s0, s1, s2, s3, s4, s5, s6, s7, s8, s9, s10, s11, s12, s13, s14, s15, s16, s17, s18, s19, s20, s21⟩; go_simp; with_reducible rfl)
         rotate_left; focus (simp only [Act.put, sA_, s0_, s1_, i64_w, i32_w]; rfl)
         refine pure_ (i := 8) (N := some 35) (v := ?_) (a' := ?_) #[true, true, true, true, true, true, true, true, true, false] rfl rfl (any_of HT_.out (by kernel_rfl)) (fun _ _ _ h => h) (Or.inl ⟨by rfl, ?_⟩) ?_ ?_
         rotate_left; focus (intro w'; go_simp; with_reducible rfl)
         rotate_left; focus (simp only [Act.put, sA_, s0_, s1_, i64_w, i32_w]; rfl)
         refine pure_ (i := 9) (N := some 10) (v := ?_) (a' := ?_) #[true, true, true, true, true, true, true, true, true, true] rfl rfl (any_of HT_.out (by kernel_rfl)) (fun _ _ _ h => h) (Or.inl ⟨by rfl, ?_⟩) ?_ ?_
         rotate_left; focus (intro w'; go_simp; with_reducible rfl)
         rotate_left; focus (simp only [Act.put, sA_, s0_, s1_, i64_w, i32_w]; rfl)
         refine done_ (done_of HT_.out (by kernel_rfl)) ?_
         have p200 : 0 ≤ (x8_1 : Int) := of_decide_eq_true (by first | (with_reducible assumption) | assumption)
         have q200 : x8_1 < (l1.length : Int) := of_decide_eq_true (by first | (with_reducible assumption) | assumption)
         obtain ⟨ad200, e200, hx200_0, hx200_1, hx200_2, hx200_3, hx200_4, hx200_5, hx200_6, hx200_7, hx200_8, hx200_9, hx200_10, hx200_11, hx200_12⟩ := at_T40 HR1.out x8_1 p200 q200
         obtain rfl : ad199 = ad200 := (by injection e200)
         replace hx200_0 := (HB.out.cell (World.block_lt_of_cell? w _ hx200_0)).trans hx200_0
         replace hx200_1 := (HB.out.cell (World.block_lt_of_cell? w _ hx200_1)).trans hx200_1
         replace hx200_2 := (HB.out.cell (World.block_lt_of_cell? w _ hx200_2)).trans hx200_2
         replace hx200_3 := (HB.out.cell (World.block_lt_of_cell? w _ hx200_3)).trans hx200_3
         replace hx200_4 := (HB.out.cell (World.block_lt_of_cell? w _ hx200_4)).trans hx200_4
         replace hx200_5 := (HB.out.cell (World.block_lt_of_cell? w _ hx200_5)).trans hx200_5
         replace hx200_6 := (HB.out.cell (World.block_lt_of_cell? w _ hx200_6)).trans hx200_6
         replace hx200_7 := (HB.out.cell (World.block_lt_of_cell? w _ hx200_7)).trans hx200_7
         replace hx200_8 := (HB.out.cell (World.block_lt_of_cell? w _ hx200_8)).trans hx200_8
         replace hx200_9 := (HB.out.cell (World.block_lt_of_cell? w _ hx200_9)).trans hx200_9
         replace hx200_10 := (HB.out.cell (World.block_lt_of_cell? w _ hx200_10)).trans hx200_10
         replace hx200_11 := (HB.out.cell (World.block_lt_of_cell? w _ hx200_11)).trans hx200_11
         replace hx200_12 := (HB.out.cell (World.block_lt_of_cell? w _ hx200_12)).trans hx200_12
         replace p200 := eq_true p200
         replace q200 := eq_true q200
         try go_wp2
         have n0_ := Aside0.mk (blk_drew BK193.out); have n1_ := Aside0.mk (blk_drew BK198.out); have n2_ := Aside0.mk (below_drew1 HB.out); clear BK193; clear BK198; clear HB; have BK193 := n0_; have BK198 := n1_; have HB := n2_; clear n0_ n1_ n2_
         have p201 : 0 ≤ (x8_1 : Int) := of_decide_eq_true (by first | (with_reducible assumption) | assumption)
         have q201 : x8_1 < (l1.length : Int) := of_decide_eq_true (by first | (with_reducible assumption) | assumption)
         obtain ⟨ad201, e201, hx201_0, hx201_1, hx201_2, hx201_3, hx201_4, hx201_5, hx201_6, hx201_7, hx201_8, hx201_9, hx201_10, hx201_11, hx201_12⟩ := at_T40 HR1.out x8_1 p201 q201
         have hw201_12 := hx201_12
         have hw201_11 := hx201_11
         have hw201_10 := hx201_10
         have hw201_9 := hx201_9
         have hw201_8 := hx201_8
         have hw201_7 := hx201_7
         have hw201_6 := hx201_6
         have hw201_5 := hx201_5
         have hw201_4 := hx201_4
         have hw201_3 := hx201_3
         have hw201_2 := hx201_2
         have hw201_1 := hx201_1
         have hw201_0 := hx201_0
         obtain rfl : ad199 = ad201 := (by injection e201)
         replace hx201_0 := (HB.out.cell (World.block_lt_of_cell? w _ hx201_0)).trans hx201_0
         replace hx201_1 := (HB.out.cell (World.block_lt_of_cell? w _ hx201_1)).trans hx201_1
         replace hx201_2 := (HB.out.cell (World.block_lt_of_cell? w _ hx201_2)).trans hx201_2
         replace hx201_3 := (HB.out.cell (World.block_lt_of_cell? w _ hx201_3)).trans hx201_3
         replace hx201_4 := (HB.out.cell (World.block_lt_of_cell? w _ hx201_4)).trans hx201_4
         replace hx201_5 := (HB.out.cell (World.block_lt_of_cell? w _ hx201_5)).trans hx201_5
         replace hx201_6 := (HB.out.cell (World.block_lt_of_cell? w _ hx201_6)).trans hx201_6
         replace hx201_7 := (HB.out.cell (World.block_lt_of_cell? w _ hx201_7)).trans hx201_7
         replace hx201_8 := (HB.out.cell (World.block_lt_of_cell? w _ hx201_8)).trans hx201_8
         replace hx201_9 := (HB.out.cell (World.block_lt_of_cell? w _ hx201_9)).trans hx201_9
         replace hx201_10 := (HB.out.cell (World.block_lt_of_cell? w _ hx201_10)).trans hx201_10
         replace hx201_11 := (HB.out.cell (World.block_lt_of_cell? w _ hx201_11)).trans hx201_11
         replace hx201_12 := (HB.out.cell (World.block_lt_of_cell? w _ hx201_12)).trans hx201_12
         replace p201 := eq_true p201
         replace q201 := eq_true q201
         refine start_ (n := 8) (S := fun w' => w'.cell? ⟨gb193, 0, none⟩ = some (.int .u64 x194000_1) ∧ w'.cell? ⟨gb193, 1, none⟩ = some (.int .u64 x194001_1) ∧ w'.cell? ⟨gb193, 2, none⟩ = some (.int .u64 x194002_1) ∧ w'.cell? ⟨gb193, 3, none⟩ = some (.int .u64 x194003_1) ∧ w'.cell? ⟨gb193, 4, none⟩ = some (.int .u64 x194004_1) ∧ w'.cell? ⟨gb193, 5, none⟩ = some (.int .u64 x194005_1) ∧ w'.cell? ⟨gb193, 6, none⟩ = some (.int .u64 x194006_1) ∧ w'.cell? ⟨gb193, 7, none⟩ = some (.int .u64 x194007_1) ∧ w'.cell? ⟨gb193, 8, none⟩ = some (.bool x194008_1) ∧ w'.cell? (ad199.add ((x8_1).toNat * 13)) = some (.int .i64 ((rd_T40 l1 x8_1).f0)) ∧ w'.cell? ⟨(ad199.add ((x8_1).toNat * 13)).block, (ad199.add ((x8_1).toNat * 13)).off + 1, none⟩ = some (.int .u64 ((rd_T40 l1 x8_1).f1.f0)) ∧ w'.cell? ⟨(ad199.add ((x8_1).toNat * 13)).block, (ad199.add ((x8_1).toNat * 13)).off + 2, none⟩ = some (.int .u64 ((rd_T40 l1 x8_1).f1.f1)) ∧ w'.cell? ⟨(ad199.add ((x8_1).toNat * 13)).block, (ad199.add ((x8_1).toNat * 13)).off + 3, none⟩ = some (.int .u64 ((rd_T40 l1 x8_1).f1.f2)) ∧ w'.cell? ⟨(ad199.add ((x8_1).toNat * 13)).block, (ad199.add ((x8_1).toNat * 13)).off + 4, none⟩ = some (.int .u64 ((rd_T40 l1 x8_1).f1.f3)) ∧ w'.cell? ⟨(ad199.add ((x8_1).toNat * 13)).block, (ad199.add ((x8_1).toNat * 13)).off + 5, none⟩ = some (.int .u64 ((rd_T40 l1 x8_1).f1.f4)) ∧ w'.cell? ⟨(ad199.add ((x8_1).toNat * 13)).block, (ad199.add ((x8_1).toNat * 13)).off + 6, none⟩ = some (.int .u64 ((rd_T40 l1 x8_1).f1.f5)) ∧ w'.cell? ⟨(ad199.add ((x8_1).toNat * 13)).block, (ad199.add ((x8_1).toNat * 13)).off + 7, none⟩ = some (.int .u64 ((rd_T40 l1 x8_1).f1.f6)) ∧ w'.cell? ⟨(ad199.add ((x8_1).toNat * 13)).block, (ad199.add ((x8_1).toNat * 13)).off + 8, none⟩ = some (.int .u64 ((rd_T40 l1 x8_1).f1.f7)) ∧ w'.cell? ⟨(ad199.add ((x8_1).toNat * 13)).block, (ad199.add ((x8_1).toNat * 13)).off + 9, none⟩ = some (.bool ((rd_T40 l1 x8_1).f1.f8)) ∧ w'.cell? ⟨(ad199.add ((x8_1).toNat * 13)).block, (ad199.add ((x8_1).toNat * 13)).off + 10, none⟩ = some (.bool ((rd_T40 l1 x8_1).f1.f9)) ∧ w'.cell? ⟨(ad199.add ((x8_1).toNat * 13)).block, (ad199.add ((x8_1).toNat * 13)).off + 11, none⟩ = some (.int .u64 ((rd_T40 l1 x8_1).f2)) ∧ w'.cell? ⟨(ad199.add ((x8_1).toNat * 13)).block, (ad199.add ((x8_1).toNat * 13)).off + 12, none⟩ = some (.int .u64 ((rd_T40 l1 x8_1).f3))) (ds := [7]) #[false, false, false, false, false, false, false, false] (by kernel_rfl) rfl rfl ⟨(blk_cell BK193.out 0).trans rfl, (blk_cell BK193.out 1).trans rfl, (blk_cell BK193.out 2).trans rfl, (blk_cell BK193.out 3).trans rfl, (blk_cell BK193.out 4).trans rfl, (blk_cell BK193.out 5).trans rfl, (blk_cell BK193.out 6).trans rfl, (blk_cell BK193.out 7).trans rfl, (blk_cell BK193.out 8).trans rfl, ((HB.out.cell (World.block_lt_of_cell? w _ hw201_0)).trans hw201_0), ((HB.out.cell (World.block_lt_of_cell? w _ hw201_1)).trans hw201_1), ((HB.out.cell (World.block_lt_of_cell? w _ hw201_2)).trans hw201_2), ((HB.out.cell (World.block_lt_of_cell? w _ hw201_3)).trans hw201_3), ((HB.out.cell (World.block_lt_of_cell? w _ hw201_4)).trans hw201_4), ((HB.out.cell (World.block_lt_of_cell? w _ hw201_5)).trans hw201_5), ((HB.out.cell (World.block_lt_of_cell? w _ hw201_6)).trans hw201_6), ((HB.out.cell (World.block_lt_of_cell? w _ hw201_7)).trans hw201_7), ((HB.out.cell (World.block_lt_of_cell? w _ hw201_8)).trans hw201_8), ((HB.out.cell (World.block_lt_of_cell? w _ hw201_9)).trans hw201_9), ((HB.out.cell (World.block_lt_of_cell? w _ hw201_10)).trans hw201_10), ((HB.out.cell (World.block_lt_of_cell? w _ hw201_11)).trans hw201_11), ((HB.out.cell (World.block_lt_of_cell? w _ hw201_12)).trans hw201_12)⟩ (fun hHeld => ?_); refine with_tabW wigwaglaw14_PragueCalm.tab11 wigwaglaw14_PragueCalm.bits11 (fun HT_ HW_ => ?_)
         generalize w25.drew = w26 at BK193 BK198 HB hx201_0 hx201_1 hx201_10 hx201_11 hx201_12 hx201_2 hx201_3 hx201_4 hx201_5 hx201_6 hx201_7 hx201_8 hx201_9 hHeld ⊢
         refine pure_ (i := 1) (N := some 44) (v := ?_) (a' := ?_) #[false, true, false, false, false, false, false, false] rfl rfl (any_of HT_.out (by kernel_rfl)) (fun _ _ _ h => h) (Or.inl ⟨by rfl, ?_⟩) ?_ ?_
         rotate_left; focus (intro w'; go_simp; with_reducible rfl)
         rotate_left; focus (simp only [Act.put, sA_, s0_, s1_, i64_w, i32_w]; rfl)
         refine pure_ (i := 2) (N := some 45) (v := ?_) (a' := ?_) #[false, true, true, false, false, false, false, false] rfl rfl (any_of HT_.out (by kernel_rfl)) (fun _ _ _ h => h) (Or.inl ⟨by rfl, ?_⟩) ?_ ?_
         rotate_left; focus (intro w'; go_simp; with_reducible rfl)
         rotate_left; focus (simp only [Act.put, sA_, s0_, s1_, i64_w, i32_w]; rfl)
         refine pure_ (i := 3) (N := some 46) (v := ?_) (a' := ?_) #[false, true, true, true, false, false, false, false] rfl rfl (any_of HT_.out (by kernel_rfl)) (fun _ _ _ h => h) (Or.inl ⟨by rfl, ?_⟩) ?_ ?_
         rotate_left; focus (intro w'; go_simp; with_reducible rfl)
         rotate_left; focus (simp only [Act.put, sA_, s0_, s1_, i64_w, i32_w]; rfl)
         refine pure_ (i := 4) (N := some 47) (v := ?_) (a' := ?_) #[false, true, true, true, true, false, false, false] rfl rfl (any_of HT_.out (by kernel_rfl)) (fun _ _ _ h => h) (Or.inl ⟨by rfl, ?_⟩) ?_ ?_
         rotate_left; focus (intro w'; go_simp; with_reducible rfl)
         rotate_left; focus (simp only [Act.put, sA_, s0_, s1_, i64_w, i32_w]; rfl)
         refine take_ (i := 0) (N := some 43) (v := ?_) (a' := ?_) #[true, true, true, true, true, false, false, false] rfl rfl (take_ofW HT_.out HW_.out (by kernel_rfl)) (fun _ _ _ h => h) (Or.inl ⟨by rfl, ?_⟩) hHeld ?_ ?_
         rotate_left; focus (rintro w' ⟨s0, s1, s2, s3, s4, s5, s6, s7, s8, s9, s10, s11, s12, s13, s14, s15, s16, s17, s18, s19, s20, s21⟩; go_simp; with_reducible rfl)
         rotate_left; focus (simp only [Act.put, sA_, s0_, s1_, i64_w, i32_w]; rfl)
         refine take_ (i := 5) (N := some 48) (v := ?_) (a' := ?_) #[true, true, true, true, true, true, false, false] rfl rfl (take_ofW HT_.out HW_.out (by kernel_rfl)) (fun _ _ _ h => h) (Or.inl ⟨by rfl, ?_⟩) hHeld ?_ ?_
         rotate_left; focus (rintro w' ⟨s0, s1, s2, s3, s4, s5, s6, s7, s8, s9, s10, s11, s12, s13, s14, s15, s16, s17, s18, s19, s20, s21⟩; go_simp; with_reducible rfl)
         rotate_left; focus (simp only [Act.put, sA_, s0_, s1_, i64_w, i32_w]; rfl)
         refine one_ (i := 6) (N := some 49) #[true, true, true, true, true, true, true, false] rfl rfl (one_of HT_.out (by kernel_rfl)) (by decide) (fun K hK => ?_)
         refine goes_ Try.func10 (by kernel_rfl) rfl #[.agg #[.int .u64 x194000_1, .int .u64 x194001_1, .int .u64 x194002_1, .int .u64 x194003_1, .int .u64 x194004_1, .int .u64 x194005_1, .int .u64 x194006_1, .int .u64 x194007_1, .bool x194008_1], .agg #[.int .u64 ((rd_T40 l1 x8_1).f1.f0), .int .u64 ((rd_T40 l1 x8_1).f1.f1), .int .u64 ((rd_T40 l1 x8_1).f1.f2), .int .u64 ((rd_T40 l1 x8_1).f1.f3), .int .u64 ((rd_T40 l1 x8_1).f1.f4), .int .u64 ((rd_T40 l1 x8_1).f1.f5), .int .u64 ((rd_T40 l1 x8_1).f1.f6), .int .u64 ((rd_T40 l1 x8_1).f1.f7), .bool ((rd_T40 l1 x8_1).f1.f8), .bool ((rd_T40 l1 x8_1).f1.f9)]] (by rfl) rfl rfl (by (try simp only [List.map_toArray, List.map_cons, List.map_nil]); first | done | rfl | (simp only [List.length_drop, List.length_take]; rfl)) ?_
         with_reducible refine (prague_Ack.calls x194000_1 x194001_1 x194002_1 x194003_1 x194004_1 x194005_1 x194006_1 x194007_1 x194008_1 ((rd_T40 l1 x8_1).f1.f0) ((rd_T40 l1 x8_1).f1.f1) ((rd_T40 l1 x8_1).f1.f2) ((rd_T40 l1 x8_1).f1.f3) ((rd_T40 l1 x8_1).f1.f4) ((rd_T40 l1 x8_1).f1.f5) ((rd_T40 l1 x8_1).f1.f6) ((rd_T40 l1 x8_1).f1.f7) ((rd_T40 l1 x8_1).f1.f8) ((rd_T40 l1 x8_1).f1.f9) t202 t203 t204 t205 t206 t207 t208 t209 t210 _ A20.out).mono ?_
         rintro e w27 ⟨rfl, hb⟩
         refine ⟨_, rfl, ?_⟩
         have n0_ := Aside0.mk (blk_below (g := gb193) (o := .cells #[.int .u64 x194000_1, .int .u64 x194001_1, .int .u64 x194002_1, .int .u64 x194003_1, .int .u64 x194004_1, .int .u64 x194005_1, .int .u64 x194006_1, .int .u64 x194007_1, .bool x194008_1] 26 (0, 0)) (by (with_reducible repeat first|apply bN_|apply bD_|apply bA_); exact BK193.out) hb); have n1_ := Aside0.mk (blk_below (g := gb198) (o := .cells #[.int .u64 x199000_1, .int .u64 x199001_1, .int .u64 x199002_1, .int .u64 x199003_1] 24 (0, 0)) (by (with_reducible repeat first|apply bN_|apply bD_|apply bA_); exact BK198.out) hb); have n2_ := Aside0.mk (below_step (by repeat (first | (with_reducible first | exact HB.out | apply b1_ | apply b2_ | apply b3_ | refine bS_ ?_ GE193.out | refine bS_ ?_ GE198.out) | exact HB.out)) hb); clear BK193; clear BK198; clear HB; have BK193 := n0_; have BK198 := n1_; have HB := n2_; clear n0_ n1_ n2_; (try clear hb); (try clear hb2); (try clear hk); (try clear hi)
         refine hK.out _ _ ⟨(blk_cell BK193.out 0).trans rfl, (blk_cell BK193.out 1).trans rfl, (blk_cell BK193.out 2).trans rfl, (blk_cell BK193.out 3).trans rfl, (blk_cell BK193.out 4).trans rfl, (blk_cell BK193.out 5).trans rfl, (blk_cell BK193.out 6).trans rfl, (blk_cell BK193.out 7).trans rfl, (blk_cell BK193.out 8).trans rfl, ((HB.out.cell (World.block_lt_of_cell? w _ hw201_0)).trans hw201_0), ((HB.out.cell (World.block_lt_of_cell? w _ hw201_1)).trans hw201_1), ((HB.out.cell (World.block_lt_of_cell? w _ hw201_2)).trans hw201_2), ((HB.out.cell (World.block_lt_of_cell? w _ hw201_3)).trans hw201_3), ((HB.out.cell (World.block_lt_of_cell? w _ hw201_4)).trans hw201_4), ((HB.out.cell (World.block_lt_of_cell? w _ hw201_5)).trans hw201_5), ((HB.out.cell (World.block_lt_of_cell? w _ hw201_6)).trans hw201_6), ((HB.out.cell (World.block_lt_of_cell? w _ hw201_7)).trans hw201_7), ((HB.out.cell (World.block_lt_of_cell? w _ hw201_8)).trans hw201_8), ((HB.out.cell (World.block_lt_of_cell? w _ hw201_9)).trans hw201_9), ((HB.out.cell (World.block_lt_of_cell? w _ hw201_10)).trans hw201_10), ((HB.out.cell (World.block_lt_of_cell? w _ hw201_11)).trans hw201_11), ((HB.out.cell (World.block_lt_of_cell? w _ hw201_12)).trans hw201_12)⟩ (fun hHeld => ?_)
         clear hK K
         refine norm_ (a' := ?_) ?_ ?_
         rotate_left
         ·show Act.put _ (some 49) _ = _
          simp only [Act.put, sA_, s0_, s1_, i64_w, i32_w]
          rfl
         refine last_ (i := 7) (N := none) #[true, true, true, true, true, true, true, true] rfl rfl (one_of HT_.out (by kernel_rfl)) (by decide) (fun K hK => ?_)
         have hs28 : w27.cell? ⟨gb193, 0, none⟩ = some (.int .u64 x194000_1) := (blk_cell BK193.out 0).trans rfl
         have hfs28 := blk_frozen BK193.out 0
         have hns28_1 := NB198_193.out
         have hms28_1 := NB193_198.out
         have hs29 : w27.cell? ⟨gb193, 1, none⟩ = some (.int .u64 x194001_1) := (blk_cell BK193.out 1).trans rfl
         have hfs29 := blk_frozen BK193.out 1
         have hns29_1 := NB198_193.out
         have hms29_1 := NB193_198.out
         have hs30 : w27.cell? ⟨gb193, 2, none⟩ = some (.int .u64 x194002_1) := (blk_cell BK193.out 2).trans rfl
         have hfs30 := blk_frozen BK193.out 2
         have hns30_1 := NB198_193.out
         have hms30_1 := NB193_198.out
         have hs31 : w27.cell? ⟨gb193, 3, none⟩ = some (.int .u64 x194003_1) := (blk_cell BK193.out 3).trans rfl
         have hfs31 := blk_frozen BK193.out 3
         have hns31_1 := NB198_193.out
         have hms31_1 := NB193_198.out
         have hs32 : w27.cell? ⟨gb193, 4, none⟩ = some (.int .u64 x194004_1) := (blk_cell BK193.out 4).trans rfl
         have hfs32 := blk_frozen BK193.out 4
         have hns32_1 := NB198_193.out
         have hms32_1 := NB193_198.out
         have hs33 : w27.cell? ⟨gb193, 5, none⟩ = some (.int .u64 x194005_1) := (blk_cell BK193.out 5).trans rfl
         have hfs33 := blk_frozen BK193.out 5
         have hns33_1 := NB198_193.out
         have hms33_1 := NB193_198.out
         have hs34 : w27.cell? ⟨gb193, 6, none⟩ = some (.int .u64 x194006_1) := (blk_cell BK193.out 6).trans rfl
         have hfs34 := blk_frozen BK193.out 6
         have hns34_1 := NB198_193.out
         have hms34_1 := NB193_198.out
         have hs35 : w27.cell? ⟨gb193, 7, none⟩ = some (.int .u64 x194007_1) := (blk_cell BK193.out 7).trans rfl
         have hfs35 := blk_frozen BK193.out 7
         have hns35_1 := NB198_193.out
         have hms35_1 := NB193_198.out
         have hs36 : w27.cell? ⟨gb193, 8, none⟩ = some (.bool x194008_1) := (blk_cell BK193.out 8).trans rfl
         have hfs36 := blk_frozen BK193.out 8
         have hns36_1 := NB198_193.out
         have hms36_1 := NB193_198.out
         refine skip_ (w1 := ?_) (by rfl) rfl ?_ ?_
         rotate_left
         ·go_simp
          rfl
         refine hK.out _ _ ?_
         clear hK K
         refine done_ (done_of HT_.out (by kernel_rfl)) ?_
         try go_wp2
         generalize hW_ : (((((((((w27.setCell ⟨gb193, 0, none⟩ (.int .u64 t202)).setCell ⟨gb193, 1, none⟩ (.int .u64 t203)).setCell ⟨gb193, 2, none⟩ (.int .u64 t204)).setCell ⟨gb193, 3, none⟩ (.int .u64 t205)).setCell ⟨gb193, 4, none⟩ (.int .u64 t206)).setCell ⟨gb193, 5, none⟩ (.int .u64 t207)).setCell ⟨gb193, 6, none⟩ (.int .u64 t208)).setCell ⟨gb193, 7, none⟩ (.int .u64 t209)).setCell ⟨gb193, 8, none⟩ (.bool t210)) = w37
         have n0_ : Aside0 (w37.heap[gb193]? = some (.cells #[.int .u64 t202, .int .u64 t203, .int .u64 t204, .int .u64 t205, .int .u64 t206, .int .u64 t207, .int .u64 t208, .int .u64 t209, .bool t210] 26 (0, 0))) := ⟨by rw [← hW_]; exact (by (with_reducible repeat first|apply bN_|apply bD_|apply bA_); refine blk_put (cs := #[.int .u64 t202, .int .u64 t203, .int .u64 t204, .int .u64 t205, .int .u64 t206, .int .u64 t207, .int .u64 t208, .int .u64 t209, .bool x194008_1]) ?_ 8 _ rfl; (with_reducible repeat first|apply bN_|apply bD_|apply bA_); refine blk_put (cs := #[.int .u64 t202, .int .u64 t203, .int .u64 t204, .int .u64 t205, .int .u64 t206, .int .u64 t207, .int .u64 t208, .int .u64 x194007_1, .bool x194008_1]) ?_ 7 _ rfl; (with_reducible repeat first|apply bN_|apply bD_|apply bA_); refine blk_put (cs := #[.int .u64 t202, .int .u64 t203, .int .u64 t204, .int .u64 t205, .int .u64 t206, .int .u64 t207, .int .u64 x194006_1, .int .u64 x194007_1, .bool x194008_1]) ?_ 6 _ rfl; (with_reducible repeat first|apply bN_|apply bD_|apply bA_); refine blk_put (cs := #[.int .u64 t202, .int .u64 t203, .int .u64 t204, .int .u64 t205, .int .u64 t206, .int .u64 x194005_1, .int .u64 x194006_1, .int .u64 x194007_1, .bool x194008_1]) ?_ 5 _ rfl; (with_reducible repeat first|apply bN_|apply bD_|apply bA_); refine blk_put (cs := #[.int .u64 t202, .int .u64 t203, .int .u64 t204, .int .u64 t205, .int .u64 x194004_1, .int .u64 x194005_1, .int .u64 x194006_1, .int .u64 x194007_1, .bool x194008_1]) ?_ 4 _ rfl; (with_reducible repeat first|apply bN_|apply bD_|apply bA_); refine blk_put (cs := #[.int .u64 t202, .int .u64 t203, .int .u64 t204, .int .u64 x194003_1, .int .u64 x194004_1, .int .u64 x194005_1, .int .u64 x194006_1, .int .u64 x194007_1, .bool x194008_1]) ?_ 3 _ rfl; (with_reducible repeat first|apply bN_|apply bD_|apply bA_); refine blk_put (cs := #[.int .u64 t202, .int .u64 t203, .int .u64 x194002_1, .int .u64 x194003_1, .int .u64 x194004_1, .int .u64 x194005_1, .int .u64 x194006_1, .int .u64 x194007_1, .bool x194008_1]) ?_ 2 _ rfl; (with_reducible repeat first|apply bN_|apply bD_|apply bA_); refine blk_put (cs := #[.int .u64 t202, .int .u64 x194001_1, .int .u64 x194002_1, .int .u64 x194003_1, .int .u64 x194004_1, .int .u64 x194005_1, .int .u64 x194006_1, .int .u64 x194007_1, .bool x194008_1]) ?_ 1 _ rfl; (with_reducible repeat first|apply bN_|apply bD_|apply bA_); refine blk_put (cs := #[.int .u64 x194000_1, .int .u64 x194001_1, .int .u64 x194002_1, .int .u64 x194003_1, .int .u64 x194004_1, .int .u64 x194005_1, .int .u64 x194006_1, .int .u64 x194007_1, .bool x194008_1]) ?_ 0 _ rfl; (with_reducible repeat first|apply bN_|apply bD_|apply bA_); exact BK193.out)⟩; have n1_ : Aside0 (w37.heap[gb198]? = some (.cells #[.int .u64 x199000_1, .int .u64 x199001_1, .int .u64 x199002_1, .int .u64 x199003_1] 24 (0, 0))) := ⟨by rw [← hW_]; exact (by (with_reducible repeat first|apply bN_|apply bD_|apply bA_); refine blk_far ?_ NB198_193.out _; (with_reducible repeat first|apply bN_|apply bD_|apply bA_); refine blk_far ?_ NB198_193.out _; (with_reducible repeat first|apply bN_|apply bD_|apply bA_); refine blk_far ?_ NB198_193.out _; (with_reducible repeat first|apply bN_|apply bD_|apply bA_); refine blk_far ?_ NB198_193.out _; (with_reducible repeat first|apply bN_|apply bD_|apply bA_); refine blk_far ?_ NB198_193.out _; (with_reducible repeat first|apply bN_|apply bD_|apply bA_); refine blk_far ?_ NB198_193.out _; (with_reducible repeat first|apply bN_|apply bD_|apply bA_); refine blk_far ?_ NB198_193.out _; (with_reducible repeat first|apply bN_|apply bD_|apply bA_); refine blk_far ?_ NB198_193.out _; (with_reducible repeat first|apply bN_|apply bD_|apply bA_); refine blk_far ?_ NB198_193.out _; (with_reducible repeat first|apply bN_|apply bD_|apply bA_); exact BK198.out)⟩; have n2_ : Aside0 (Below w.heap.size w w37) := ⟨by rw [← hW_]; exact (by repeat (first | (with_reducible first | exact HB.out | apply b1_ | apply b2_ | apply b3_ | refine bS_ ?_ GE193.out | refine bS_ ?_ GE198.out) | exact HB.out))⟩; (try clear BK193); (try clear BK198); (try clear HB); clear hW_; have BK193 := n0_; have BK198 := n1_; have HB := n2_; clear n0_ n1_ n2_; have n0_ := Aside0.mk (blk_drew BK193.out); have n1_ := Aside0.mk (blk_drew BK198.out); have n2_ := Aside0.mk (below_drew1 HB.out); clear BK193; clear BK198; clear HB; have BK193 := n0_; have BK198 := n1_; have HB := n2_; clear n0_ n1_ n2_
         have p211 : 0 ≤ (x8_1 : Int) := of_decide_eq_true (by first | (with_reducible assumption) | assumption)
         have q211 : x8_1 < (l1.length : Int) := of_decide_eq_true (by first | (with_reducible assumption) | assumption)
         obtain ⟨ad211, e211, hx211_0, hx211_1, hx211_2, hx211_3, hx211_4, hx211_5, hx211_6, hx211_7, hx211_8, hx211_9, hx211_10, hx211_11, hx211_12⟩ := at_T40 HR1.out x8_1 p211 q211
         have hw211_12 := hx211_12
         have hw211_11 := hx211_11
         have hw211_10 := hx211_10
         have hw211_9 := hx211_9
         have hw211_8 := hx211_8
         have hw211_7 := hx211_7
         have hw211_6 := hx211_6
         have hw211_5 := hx211_5
         have hw211_4 := hx211_4
         have hw211_3 := hx211_3
         have hw211_2 := hx211_2
         have hw211_1 := hx211_1
         have hw211_0 := hx211_0
         obtain rfl : ad199 = ad211 := (by injection e211)
         replace hx211_0 := (HB.out.cell (World.block_lt_of_cell? w _ hx211_0)).trans hx211_0
         replace hx211_1 := (HB.out.cell (World.block_lt_of_cell? w _ hx211_1)).trans hx211_1
         replace hx211_2 := (HB.out.cell (World.block_lt_of_cell? w _ hx211_2)).trans hx211_2
         replace hx211_3 := (HB.out.cell (World.block_lt_of_cell? w _ hx211_3)).trans hx211_3
         replace hx211_4 := (HB.out.cell (World.block_lt_of_cell? w _ hx211_4)).trans hx211_4
         replace hx211_5 := (HB.out.cell (World.block_lt_of_cell? w _ hx211_5)).trans hx211_5
         replace hx211_6 := (HB.out.cell (World.block_lt_of_cell? w _ hx211_6)).trans hx211_6
         replace hx211_7 := (HB.out.cell (World.block_lt_of_cell? w _ hx211_7)).trans hx211_7
         replace hx211_8 := (HB.out.cell (World.block_lt_of_cell? w _ hx211_8)).trans hx211_8
         replace hx211_9 := (HB.out.cell (World.block_lt_of_cell? w _ hx211_9)).trans hx211_9
         replace hx211_10 := (HB.out.cell (World.block_lt_of_cell? w _ hx211_10)).trans hx211_10
         replace hx211_11 := (HB.out.cell (World.block_lt_of_cell? w _ hx211_11)).trans hx211_11
         replace hx211_12 := (HB.out.cell (World.block_lt_of_cell? w _ hx211_12)).trans hx211_12
         replace p211 := eq_true p211
         replace q211 := eq_true q211
         have p212 : 0 ≤ (x8_1 : Int) := of_decide_eq_true (by first | (with_reducible assumption) | assumption)
         have q212 : x8_1 < (l1.length : Int) := of_decide_eq_true (by first | (with_reducible assumption) | assumption)
         obtain ⟨ad212, e212, hx212_0, hx212_1, hx212_2, hx212_3, hx212_4, hx212_5, hx212_6, hx212_7, hx212_8, hx212_9, hx212_10, hx212_11, hx212_12⟩ := at_T40 HR1.out x8_1 p212 q212
         have hw212_12 := hx212_12
         have hw212_11 := hx212_11
         have hw212_10 := hx212_10
         have hw212_9 := hx212_9
         have hw212_8 := hx212_8
         have hw212_7 := hx212_7
         have hw212_6 := hx212_6
         have hw212_5 := hx212_5
         have hw212_4 := hx212_4
         have hw212_3 := hx212_3
         have hw212_2 := hx212_2
         have hw212_1 := hx212_1
         have hw212_0 := hx212_0
         obtain rfl : ad199 = ad212 := (by injection e212)
         replace hx212_0 := (HB.out.cell (World.block_lt_of_cell? w _ hx212_0)).trans hx212_0
         replace hx212_1 := (HB.out.cell (World.block_lt_of_cell? w _ hx212_1)).trans hx212_1
         replace hx212_2 := (HB.out.cell (World.block_lt_of_cell? w _ hx212_2)).trans hx212_2
         replace hx212_3 := (HB.out.cell (World.block_lt_of_cell? w _ hx212_3)).trans hx212_3
         replace hx212_4 := (HB.out.cell (World.block_lt_of_cell? w _ hx212_4)).trans hx212_4
         replace hx212_5 := (HB.out.cell (World.block_lt_of_cell? w _ hx212_5)).trans hx212_5
         replace hx212_6 := (HB.out.cell (World.block_lt_of_cell? w _ hx212_6)).trans hx212_6
         replace hx212_7 := (HB.out.cell (World.block_lt_of_cell? w _ hx212_7)).trans hx212_7
         replace hx212_8 := (HB.out.cell (World.block_lt_of_cell? w _ hx212_8)).trans hx212_8
         replace hx212_9 := (HB.out.cell (World.block_lt_of_cell? w _ hx212_9)).trans hx212_9
         replace hx212_10 := (HB.out.cell (World.block_lt_of_cell? w _ hx212_10)).trans hx212_10
         replace hx212_11 := (HB.out.cell (World.block_lt_of_cell? w _ hx212_11)).trans hx212_11
         replace hx212_12 := (HB.out.cell (World.block_lt_of_cell? w _ hx212_12)).trans hx212_12
         replace p212 := eq_true p212
         replace q212 := eq_true q212
         have p213 : 0 ≤ (x8_1 : Int) := of_decide_eq_true (by first | (with_reducible assumption) | assumption)
         have q213 : x8_1 < (l1.length : Int) := of_decide_eq_true (by first | (with_reducible assumption) | assumption)
         obtain ⟨ad213, e213, hx213_0, hx213_1, hx213_2, hx213_3, hx213_4, hx213_5, hx213_6, hx213_7, hx213_8, hx213_9, hx213_10, hx213_11, hx213_12⟩ := at_T40 HR1.out x8_1 p213 q213
         have hw213_12 := hx213_12
         have hw213_11 := hx213_11
         have hw213_10 := hx213_10
         have hw213_9 := hx213_9
         have hw213_8 := hx213_8
         have hw213_7 := hx213_7
         have hw213_6 := hx213_6
         have hw213_5 := hx213_5
         have hw213_4 := hx213_4
         have hw213_3 := hx213_3
         have hw213_2 := hx213_2
         have hw213_1 := hx213_1
         have hw213_0 := hx213_0
         obtain rfl : ad199 = ad213 := (by injection e213)
         replace hx213_0 := (HB.out.cell (World.block_lt_of_cell? w _ hx213_0)).trans hx213_0
         replace hx213_1 := (HB.out.cell (World.block_lt_of_cell? w _ hx213_1)).trans hx213_1
         replace hx213_2 := (HB.out.cell (World.block_lt_of_cell? w _ hx213_2)).trans hx213_2
         replace hx213_3 := (HB.out.cell (World.block_lt_of_cell? w _ hx213_3)).trans hx213_3
         replace hx213_4 := (HB.out.cell (World.block_lt_of_cell? w _ hx213_4)).trans hx213_4
         replace hx213_5 := (HB.out.cell (World.block_lt_of_cell? w _ hx213_5)).trans hx213_5
         replace hx213_6 := (HB.out.cell (World.block_lt_of_cell? w _ hx213_6)).trans hx213_6
         replace hx213_7 := (HB.out.cell (World.block_lt_of_cell? w _ hx213_7)).trans hx213_7
         replace hx213_8 := (HB.out.cell (World.block_lt_of_cell? w _ hx213_8)).trans hx213_8
         replace hx213_9 := (HB.out.cell (World.block_lt_of_cell? w _ hx213_9)).trans hx213_9
         replace hx213_10 := (HB.out.cell (World.block_lt_of_cell? w _ hx213_10)).trans hx213_10
         replace hx213_11 := (HB.out.cell (World.block_lt_of_cell? w _ hx213_11)).trans hx213_11
         replace hx213_12 := (HB.out.cell (World.block_lt_of_cell? w _ hx213_12)).trans hx213_12
         replace p213 := eq_true p213
         replace q213 := eq_true q213
         refine start_ (n := 21) (S := fun w' => w'.cell? ⟨gb198, 0, none⟩ = some (.int .u64 x199000_1) ∧ w'.cell? ⟨gb198, 1, none⟩ = some (.int .u64 x199001_1) ∧ w'.cell? ⟨gb198, 2, none⟩ = some (.int .u64 x199002_1) ∧ w'.cell? ⟨gb198, 3, none⟩ = some (.int .u64 x199003_1) ∧ w'.cell? (ad199.add ((x8_1).toNat * 13)) = some (.int .i64 ((rd_T40 l1 x8_1).f0)) ∧ w'.cell? ⟨(ad199.add ((x8_1).toNat * 13)).block, (ad199.add ((x8_1).toNat * 13)).off + 1, none⟩ = some (.int .u64 ((rd_T40 l1 x8_1).f1.f0)) ∧ w'.cell? ⟨(ad199.add ((x8_1).toNat * 13)).block, (ad199.add ((x8_1).toNat * 13)).off + 2, none⟩ = some (.int .u64 ((rd_T40 l1 x8_1).f1.f1)) ∧ w'.cell? ⟨(ad199.add ((x8_1).toNat * 13)).block, (ad199.add ((x8_1).toNat * 13)).off + 3, none⟩ = some (.int .u64 ((rd_T40 l1 x8_1).f1.f2)) ∧ w'.cell? ⟨(ad199.add ((x8_1).toNat * 13)).block, (ad199.add ((x8_1).toNat * 13)).off + 4, none⟩ = some (.int .u64 ((rd_T40 l1 x8_1).f1.f3)) ∧ w'.cell? ⟨(ad199.add ((x8_1).toNat * 13)).block, (ad199.add ((x8_1).toNat * 13)).off + 5, none⟩ = some (.int .u64 ((rd_T40 l1 x8_1).f1.f4)) ∧ w'.cell? ⟨(ad199.add ((x8_1).toNat * 13)).block, (ad199.add ((x8_1).toNat * 13)).off + 6, none⟩ = some (.int .u64 ((rd_T40 l1 x8_1).f1.f5)) ∧ w'.cell? ⟨(ad199.add ((x8_1).toNat * 13)).block, (ad199.add ((x8_1).toNat * 13)).off + 7, none⟩ = some (.int .u64 ((rd_T40 l1 x8_1).f1.f6)) ∧ w'.cell? ⟨(ad199.add ((x8_1).toNat * 13)).block, (ad199.add ((x8_1).toNat * 13)).off + 8, none⟩ = some (.int .u64 ((rd_T40 l1 x8_1).f1.f7)) ∧ w'.cell? ⟨(ad199.add ((x8_1).toNat * 13)).block, (ad199.add ((x8_1).toNat * 13)).off + 9, none⟩ = some (.bool ((rd_T40 l1 x8_1).f1.f8)) ∧ w'.cell? ⟨(ad199.add ((x8_1).toNat * 13)).block, (ad199.add ((x8_1).toNat * 13)).off + 10, none⟩ = some (.bool ((rd_T40 l1 x8_1).f1.f9)) ∧ w'.cell? ⟨(ad199.add ((x8_1).toNat * 13)).block, (ad199.add ((x8_1).toNat * 13)).off + 11, none⟩ = some (.int .u64 ((rd_T40 l1 x8_1).f2)) ∧ w'.cell? ⟨(ad199.add ((x8_1).toNat * 13)).block, (ad199.add ((x8_1).toNat * 13)).off + 12, none⟩ = some (.int .u64 ((rd_T40 l1 x8_1).f3)) ∧ w'.cell? (ad199.add ((x8_1).toNat * 13)) = some (.int .i64 ((rd_T40 l1 x8_1).f0)) ∧ w'.cell? ⟨(ad199.add ((x8_1).toNat * 13)).block, (ad199.add ((x8_1).toNat * 13)).off + 1, none⟩ = some (.int .u64 ((rd_T40 l1 x8_1).f1.f0)) ∧ w'.cell? ⟨(ad199.add ((x8_1).toNat * 13)).block, (ad199.add ((x8_1).toNat * 13)).off + 2, none⟩ = some (.int .u64 ((rd_T40 l1 x8_1).f1.f1)) ∧ w'.cell? ⟨(ad199.add ((x8_1).toNat * 13)).block, (ad199.add ((x8_1).toNat * 13)).off + 3, none⟩ = some (.int .u64 ((rd_T40 l1 x8_1).f1.f2)) ∧ w'.cell? ⟨(ad199.add ((x8_1).toNat * 13)).block, (ad199.add ((x8_1).toNat * 13)).off + 4, none⟩ = some (.int .u64 ((rd_T40 l1 x8_1).f1.f3)) ∧ w'.cell? ⟨(ad199.add ((x8_1).toNat * 13)).block, (ad199.add ((x8_1).toNat * 13)).off + 5, none⟩ = some (.int .u64 ((rd_T40 l1 x8_1).f1.f4)) ∧ w'.cell? ⟨(ad199.add ((x8_1).toNat * 13)).block, (ad199.add ((x8_1).toNat * 13)).off + 6, none⟩ = some (.int .u64 ((rd_T40 l1 x8_1).f1.f5)) ∧ w'.cell? ⟨(ad199.add ((x8_1).toNat * 13)).block, (ad199.add ((x8_1).toNat * 13)).off + 7, none⟩ = some (.int .u64 ((rd_T40 l1 x8_1).f1.f6)) ∧ w'.cell? ⟨(ad199.add ((x8_1).toNat * 13)).block, (ad199.add ((x8_1).toNat * 13)).off + 8, none⟩ = some (.int .u64 ((rd_T40 l1 x8_1).f1.f7)) ∧ w'.cell? ⟨(ad199.add ((x8_1).toNat * 13)).block, (ad199.add ((x8_1).toNat * 13)).off + 9, none⟩ = some (.bool ((rd_T40 l1 x8_1).f1.f8)) ∧ w'.cell? ⟨(ad199.add ((x8_1).toNat * 13)).block, (ad199.add ((x8_1).toNat * 13)).off + 10, none⟩ = some (.bool ((rd_T40 l1 x8_1).f1.f9)) ∧ w'.cell? ⟨(ad199.add ((x8_1).toNat * 13)).block, (ad199.add ((x8_1).toNat * 13)).off + 11, none⟩ = some (.int .u64 ((rd_T40 l1 x8_1).f2)) ∧ w'.cell? ⟨(ad199.add ((x8_1).toNat * 13)).block, (ad199.add ((x8_1).toNat * 13)).off + 12, none⟩ = some (.int .u64 ((rd_T40 l1 x8_1).f3)) ∧ w'.cell? (ad199.add ((x8_1).toNat * 13)) = some (.int .i64 ((rd_T40 l1 x8_1).f0)) ∧ w'.cell? ⟨(ad199.add ((x8_1).toNat * 13)).block, (ad199.add ((x8_1).toNat * 13)).off + 1, none⟩ = some (.int .u64 ((rd_T40 l1 x8_1).f1.f0)) ∧ w'.cell? ⟨(ad199.add ((x8_1).toNat * 13)).block, (ad199.add ((x8_1).toNat * 13)).off + 2, none⟩ = some (.int .u64 ((rd_T40 l1 x8_1).f1.f1)) ∧ w'.cell? ⟨(ad199.add ((x8_1).toNat * 13)).block, (ad199.add ((x8_1).toNat * 13)).off + 3, none⟩ = some (.int .u64 ((rd_T40 l1 x8_1).f1.f2)) ∧ w'.cell? ⟨(ad199.add ((x8_1).toNat * 13)).block, (ad199.add ((x8_1).toNat * 13)).off + 4, none⟩ = some (.int .u64 ((rd_T40 l1 x8_1).f1.f3)) ∧ w'.cell? ⟨(ad199.add ((x8_1).toNat * 13)).block, (ad199.add ((x8_1).toNat * 13)).off + 5, none⟩ = some (.int .u64 ((rd_T40 l1 x8_1).f1.f4)) ∧ w'.cell? ⟨(ad199.add ((x8_1).toNat * 13)).block, (ad199.add ((x8_1).toNat * 13)).off + 6, none⟩ = some (.int .u64 ((rd_T40 l1 x8_1).f1.f5)) ∧ w'.cell? ⟨(ad199.add ((x8_1).toNat * 13)).block, (ad199.add ((x8_1).toNat * 13)).off + 7, none⟩ = some (.int .u64 ((rd_T40 l1 x8_1).f1.f6)) ∧ w'.cell? ⟨(ad199.add ((x8_1).toNat * 13)).block, (ad199.add ((x8_1).toNat * 13)).off + 8, none⟩ = some (.int .u64 ((rd_T40 l1 x8_1).f1.f7)) ∧ w'.cell? ⟨(ad199.add ((x8_1).toNat * 13)).block, (ad199.add ((x8_1).toNat * 13)).off + 9, none⟩ = some (.bool ((rd_T40 l1 x8_1).f1.f8)) ∧ w'.cell? ⟨(ad199.add ((x8_1).toNat * 13)).block, (ad199.add ((x8_1).toNat * 13)).off + 10, none⟩ = some (.bool ((rd_T40 l1 x8_1).f1.f9)) ∧ w'.cell? ⟨(ad199.add ((x8_1).toNat * 13)).block, (ad199.add ((x8_1).toNat * 13)).off + 11, none⟩ = some (.int .u64 ((rd_T40 l1 x8_1).f2)) ∧ w'.cell? ⟨(ad199.add ((x8_1).toNat * 13)).block, (ad199.add ((x8_1).toNat * 13)).off + 12, none⟩ = some (.int .u64 ((rd_T40 l1 x8_1).f3))) (ds := [20]) #[false, false, false, false, false, false, false, false, false, false, false, false, false, false, false, false, false, false, false, false, false] (by kernel_rfl) rfl rfl ⟨(blk_cell BK198.out 0).trans rfl, (blk_cell BK198.out 1).trans rfl, (blk_cell BK198.out 2).trans rfl, (blk_cell BK198.out 3).trans rfl, ((HB.out.cell (World.block_lt_of_cell? w _ hw211_0)).trans hw211_0), ((HB.out.cell (World.block_lt_of_cell? w _ hw211_1)).trans hw211_1), ((HB.out.cell (World.block_lt_of_cell? w _ hw211_2)).trans hw211_2), ((HB.out.cell (World.block_lt_of_cell? w _ hw211_3)).trans hw211_3), ((HB.out.cell (World.block_lt_of_cell? w _ hw211_4)).trans hw211_4), ((HB.out.cell (World.block_lt_of_cell? w _ hw211_5)).trans hw211_5), ((HB.out.cell (World.block_lt_of_cell? w _ hw211_6)).trans hw211_6), ((HB.out.cell (World.block_lt_of_cell? w _ hw211_7)).trans hw211_7), ((HB.out.cell (World.block_lt_of_cell? w _ hw211_8)).trans hw211_8), ((HB.out.cell (World.block_lt_of_cell? w _ hw211_9)).trans hw211_9), ((HB.out.cell (World.block_lt_of_cell? w _ hw211_10)).trans hw211_10), ((HB.out.cell (World.block_lt_of_cell? w _ hw211_11)).trans hw211_11), ((HB.out.cell (World.block_lt_of_cell? w _ hw211_12)).trans hw211_12), ((HB.out.cell (World.block_lt_of_cell? w _ hw212_0)).trans hw212_0), ((HB.out.cell (World.block_lt_of_cell? w _ hw212_1)).trans hw212_1), ((HB.out.cell (World.block_lt_of_cell? w _ hw212_2)).trans hw212_2), ((HB.out.cell (World.block_lt_of_cell? w _ hw212_3)).trans hw212_3), ((HB.out.cell (World.block_lt_of_cell? w _ hw212_4)).trans hw212_4), ((HB.out.cell (World.block_lt_of_cell? w _ hw212_5)).trans hw212_5), ((HB.out.cell (World.block_lt_of_cell? w _ hw212_6)).trans hw212_6), ((HB.out.cell (World.block_lt_of_cell? w _ hw212_7)).trans hw212_7), ((HB.out.cell (World.block_lt_of_cell? w _ hw212_8)).trans hw212_8), ((HB.out.cell (World.block_lt_of_cell? w _ hw212_9)).trans hw212_9), ((HB.out.cell (World.block_lt_of_cell? w _ hw212_10)).trans hw212_10), ((HB.out.cell (World.block_lt_of_cell? w _ hw212_11)).trans hw212_11), ((HB.out.cell (World.block_lt_of_cell? w _ hw212_12)).trans hw212_12), ((HB.out.cell (World.block_lt_of_cell? w _ hw213_0)).trans hw213_0), ((HB.out.cell (World.block_lt_of_cell? w _ hw213_1)).trans hw213_1), ((HB.out.cell (World.block_lt_of_cell? w _ hw213_2)).trans hw213_2), ((HB.out.cell (World.block_lt_of_cell? w _ hw213_3)).trans hw213_3), ((HB.out.cell (World.block_lt_of_cell? w _ hw213_4)).trans hw213_4), ((HB.out.cell (World.block_lt_of_cell? w _ hw213_5)).trans hw213_5), ((HB.out.cell (World.block_lt_of_cell? w _ hw213_6)).trans hw213_6), ((HB.out.cell (World.block_lt_of_cell? w _ hw213_7)).trans hw213_7), ((HB.out.cell (World.block_lt_of_cell? w _ hw213_8)).trans hw213_8), ((HB.out.cell (World.block_lt_of_cell? w _ hw213_9)).trans hw213_9), ((HB.out.cell (World.block_lt_of_cell? w _ hw213_10)).trans hw213_10), ((HB.out.cell (World.block_lt_of_cell? w _ hw213_11)).trans hw213_11), ((HB.out.cell (World.block_lt_of_cell? w _ hw213_12)).trans hw213_12)⟩ (fun hHeld => ?_); refine with_tabW wigwaglaw14_PragueCalm.tab12 wigwaglaw14_PragueCalm.bits12 (fun HT_ HW_ => ?_)
         generalize w37.drew = w38 at BK193 BK198 HB hx211_0 hx211_1 hx211_10 hx211_11 hx211_12 hx211_2 hx211_3 hx211_4 hx211_5 hx211_6 hx211_7 hx211_8 hx211_9 hx212_0 hx212_1 hx212_10 hx212_11 hx212_12 hx212_2 hx212_3 hx212_4 hx212_5 hx212_6 hx212_7 hx212_8 hx212_9 hx213_0 hx213_1 hx213_10 hx213_11 hx213_12 hx213_2 hx213_3 hx213_4 hx213_5 hx213_6 hx213_7 hx213_8 hx213_9 hHeld ⊢
         refine pure_ (i := 1) (N := some 51) (v := ?_) (a' := ?_) #[false, true, false, false, false, false, false, false, false, false, false, false, false, false, false, false, false, false, false, false, false] rfl rfl (any_of HT_.out (by kernel_rfl)) (fun _ _ _ h => h) (Or.inl ⟨by rfl, ?_⟩) ?_ ?_
         rotate_left; focus (intro w'; go_simp; with_reducible rfl)
         rotate_left; focus (simp only [Act.put, sA_, s0_, s1_, i64_w, i32_w]; rfl)
         refine pure_ (i := 2) (N := some 52) (v := ?_) (a' := ?_) #[false, true, true, false, false, false, false, false, false, false, false, false, false, false, false, false, false, false, false, false, false] rfl rfl (any_of HT_.out (by kernel_rfl)) (fun _ _ _ h => h) (Or.inl ⟨by rfl, ?_⟩) ?_ ?_
         rotate_left; focus (intro w'; go_simp; with_reducible rfl)
         rotate_left; focus (simp only [Act.put, sA_, s0_, s1_, i64_w, i32_w]; rfl)
         refine pure_ (i := 3) (N := some 53) (v := ?_) (a' := ?_) #[false, true, true, true, false, false, false, false, false, false, false, false, false, false, false, false, false, false, false, false, false] rfl rfl (any_of HT_.out (by kernel_rfl)) (fun _ _ _ h => h) (Or.inl ⟨by rfl, ?_⟩) ?_ ?_
         rotate_left; focus (intro w'; go_simp; with_reducible rfl)
         rotate_left; focus (simp only [Act.put, sA_, s0_, s1_, i64_w, i32_w]; rfl)
         refine pure_ (i := 4) (N := some 54) (v := ?_) (a' := ?_) #[false, true, true, true, true, false, false, false, false, false, false, false, false, false, false, false, false, false, false, false, false] rfl rfl (any_of HT_.out (by kernel_rfl)) (fun _ _ _ h => h) (Or.inl ⟨by rfl, ?_⟩) ?_ ?_
         rotate_left; focus (intro w'; go_simp; with_reducible rfl)
         rotate_left; focus (simp only [Act.put, sA_, s0_, s1_, i64_w, i32_w]; rfl)
         refine pure_ (i := 5) (N := some 55) (v := ?_) (a' := ?_) #[false, true, true, true, true, true, false, false, false, false, false, false, false, false, false, false, false, false, false, false, false] rfl rfl (any_of HT_.out (by kernel_rfl)) (fun _ _ _ h => h) (Or.inl ⟨by rfl, ?_⟩) ?_ ?_
         rotate_left; focus (intro w'; go_simp; with_reducible rfl)
         rotate_left; focus (simp only [Act.put, sA_, s0_, s1_, i64_w, i32_w]; rfl)
         refine pure_ (i := 7) (N := some 57) (v := ?_) (a' := ?_) #[false, true, true, true, true, true, false, true, false, false, false, false, false, false, false, false, false, false, false, false, false] rfl rfl (any_of HT_.out (by kernel_rfl)) (fun _ _ _ h => h) (Or.inl ⟨by rfl, ?_⟩) ?_ ?_
         rotate_left; focus (intro w'; go_simp; with_reducible rfl)
         rotate_left; focus (simp only [Act.put, sA_, s0_, s1_, i64_w, i32_w]; rfl)
         refine pure_ (i := 8) (N := some 58) (v := ?_) (a' := ?_) #[false, true, true, true, true, true, false, true, true, false, false, false, false, false, false, false, false, false, false, false, false] rfl rfl (any_of HT_.out (by kernel_rfl)) (fun _ _ _ h => h) (Or.inl ⟨by rfl, ?_⟩) ?_ ?_
         rotate_left; focus (intro w'; go_simp; with_reducible rfl)
         rotate_left; focus (simp only [Act.put, sA_, s0_, s1_, i64_w, i32_w]; rfl)
         refine pure_ (i := 9) (N := some 59) (v := ?_) (a' := ?_) #[false, true, true, true, true, true, false, true, true, true, false, false, false, false, false, false, false, false, false, false, false] rfl rfl (any_of HT_.out (by kernel_rfl)) (fun _ _ _ h => h) (Or.inl ⟨by rfl, ?_⟩) ?_ ?_
         rotate_left; focus (intro w'; go_simp; with_reducible rfl)
         rotate_left; focus (simp only [Act.put, sA_, s0_, s1_, i64_w, i32_w]; rfl)
         refine pure_ (i := 10) (N := some 60) (v := ?_) (a' := ?_) #[false, true, true, true, true, true, false, true, true, true, true, false, false, false, false, false, false, false, false, false, false] rfl rfl (any_of HT_.out (by kernel_rfl)) (fun _ _ _ h => h) (Or.inl ⟨by rfl, ?_⟩) ?_ ?_
         rotate_left; focus (intro w'; go_simp; with_reducible rfl)
         rotate_left; focus (simp only [Act.put, sA_, s0_, s1_, i64_w, i32_w]; rfl)
         refine pure_ (i := 11) (N := some 61) (v := ?_) (a' := ?_) #[false, true, true, true, true, true, false, true, true, true, true, true, false, false, false, false, false, false, false, false, false] rfl rfl (any_of HT_.out (by kernel_rfl)) (fun _ _ _ h => h) (Or.inl ⟨by rfl, ?_⟩) ?_ ?_
         rotate_left; focus (intro w'; go_simp; with_reducible rfl)
         rotate_left; focus (simp only [Act.put, sA_, s0_, s1_, i64_w, i32_w]; rfl)
         refine pure_ (i := 13) (N := some 63) (v := ?_) (a' := ?_) #[false, true, true, true, true, true, false, true, true, true, true, true, false, true, false, false, false, false, false, false, false] rfl rfl (any_of HT_.out (by kernel_rfl)) (fun _ _ _ h => h) (Or.inl ⟨by rfl, ?_⟩) ?_ ?_
         rotate_left; focus (intro w'; go_simp; with_reducible rfl)
         rotate_left; focus (simp only [Act.put, sA_, s0_, s1_, i64_w, i32_w]; rfl)
         refine pure_ (i := 14) (N := some 64) (v := ?_) (a' := ?_) #[false, true, true, true, true, true, false, true, true, true, true, true, false, true, true, false, false, false, false, false, false] rfl rfl (any_of HT_.out (by kernel_rfl)) (fun _ _ _ h => h) (Or.inl ⟨by rfl, ?_⟩) ?_ ?_
         rotate_left; focus (intro w'; go_simp; with_reducible rfl)
         rotate_left; focus (simp only [Act.put, sA_, s0_, s1_, i64_w, i32_w]; rfl)
         refine pure_ (i := 15) (N := some 65) (v := ?_) (a' := ?_) #[false, true, true, true, true, true, false, true, true, true, true, true, false, true, true, true, false, false, false, false, false] rfl rfl (any_of HT_.out (by kernel_rfl)) (fun _ _ _ h => h) (Or.inl ⟨by rfl, ?_⟩) ?_ ?_
         rotate_left; focus (intro w'; go_simp; with_reducible rfl)
         rotate_left; focus (simp only [Act.put, sA_, s0_, s1_, i64_w, i32_w]; rfl)
         refine pure_ (i := 16) (N := some 66) (v := ?_) (a' := ?_) #[false, true, true, true, true, true, false, true, true, true, true, true, false, true, true, true, true, false, false, false, false] rfl rfl (any_of HT_.out (by kernel_rfl)) (fun _ _ _ h => h) (Or.inl ⟨by rfl, ?_⟩) ?_ ?_
         rotate_left; focus (intro w'; go_simp; with_reducible rfl)
         rotate_left; focus (simp only [Act.put, sA_, s0_, s1_, i64_w, i32_w]; rfl)
         refine pure_ (i := 17) (N := some 67) (v := ?_) (a' := ?_) #[false, true, true, true, true, true, false, true, true, true, true, true, false, true, true, true, true, true, false, false, false] rfl rfl (any_of HT_.out (by kernel_rfl)) (fun _ _ _ h => h) (Or.inl ⟨by rfl, ?_⟩) ?_ ?_
         rotate_left; focus (intro w'; go_simp; with_reducible rfl)
         rotate_left; focus (simp only [Act.put, sA_, s0_, s1_, i64_w, i32_w]; rfl)
         refine take_ (i := 0) (N := some 50) (v := ?_) (a' := ?_) #[true, true, true, true, true, true, false, true, true, true, true, true, false, true, true, true, true, true, false, false, false] rfl rfl (take_ofW HT_.out HW_.out (by kernel_rfl)) (fun _ _ _ h => h) (Or.inl ⟨by rfl, ?_⟩) hHeld ?_ ?_
         rotate_left; focus (rintro w' ⟨s0, s1, s2, s3, s4, s5, s6, s7, s8, s9, s10, s11, s12, s13, s14, s15, s16, s17, s18, s19, s20, s21, s22, s23, s24, s25, s26, s27, s28, s29, s30, s31, s32, s33, s34, s35, s36, s37, s38, s39, s40, s41, s42⟩; go_simp; with_reducible rfl)
         rotate_left; focus (simp only [Act.put, sA_, s0_, s1_, i64_w, i32_w]; rfl)
         refine take_ (i := 6) (N := some 56) (v := ?_) (a' := ?_) #[true, true, true, true, true, true, true, true, true, true, true, true, false, true, true, true, true, true, false, false, false] rfl rfl (take_ofW HT_.out HW_.out (by kernel_rfl)) (fun _ _ _ h => h) (Or.inl ⟨by rfl, ?_⟩) hHeld ?_ ?_
         rotate_left; focus (rintro w' ⟨s0, s1, s2, s3, s4, s5, s6, s7, s8, s9, s10, s11, s12, s13, s14, s15, s16, s17, s18, s19, s20, s21, s22, s23, s24, s25, s26, s27, s28, s29, s30, s31, s32, s33, s34, s35, s36, s37, s38, s39, s40, s41, s42⟩; go_simp; with_reducible rfl)
         rotate_left; focus (simp only [Act.put, sA_, s0_, s1_, i64_w, i32_w]; rfl)
         refine take_ (i := 12) (N := some 62) (v := ?_) (a' := ?_) #[true, true, true, true, true, true, true, true, true, true, true, true, true, true, true, true, true, true, false, false, false] rfl rfl (take_ofW HT_.out HW_.out (by kernel_rfl)) (fun _ _ _ h => h) (Or.inl ⟨by rfl, ?_⟩) hHeld ?_ ?_
         rotate_left; focus (rintro w' ⟨s0, s1, s2, s3, s4, s5, s6, s7, s8, s9, s10, s11, s12, s13, s14, s15, s16, s17, s18, s19, s20, s21, s22, s23, s24, s25, s26, s27, s28, s29, s30, s31, s32, s33, s34, s35, s36, s37, s38, s39, s40, s41, s42⟩; go_simp; with_reducible rfl)
         rotate_left; focus (simp only [Act.put, sA_, s0_, s1_, i64_w, i32_w]; rfl)
         refine take_ (i := 18) (N := some 68) (v := ?_) (a' := ?_) #[true, true, true, true, true, true, true, true, true, true, true, true, true, true, true, true, true, true, true, false, false] rfl rfl (take_ofW HT_.out HW_.out (by kernel_rfl)) (fun _ _ _ h => h) (Or.inl ⟨by rfl, ?_⟩) hHeld ?_ ?_
         rotate_left; focus (rintro w' ⟨s0, s1, s2, s3, s4, s5, s6, s7, s8, s9, s10, s11, s12, s13, s14, s15, s16, s17, s18, s19, s20, s21, s22, s23, s24, s25, s26, s27, s28, s29, s30, s31, s32, s33, s34, s35, s36, s37, s38, s39, s40, s41, s42⟩; go_simp; with_reducible rfl)
         rotate_left; focus (simp only [Act.put, sA_, s0_, s1_, i64_w, i32_w]; rfl)
         refine one_ (i := 19) (N := some 69) #[true, true, true, true, true, true, true, true, true, true, true, true, true, true, true, true, true, true, true, true, false] rfl rfl (one_of HT_.out (by kernel_rfl)) (by decide) (fun K hK => ?_)
         refine goes_ Try.func20 (by kernel_rfl) rfl #[.agg #[.int .u64 x199000_1, .int .u64 x199001_1, .int .u64 x199002_1, .int .u64 x199003_1], .int .u64 ((rd_T40 l1 x8_1).f1.f1), .int .u64 ((rd_T40 l1 x8_1).f1.f2), .bool ((rd_T40 l1 x8_1).f1.f8)] (by rfl) rfl rfl (by (try simp only [List.map_toArray, List.map_cons, List.map_nil]); first | done | rfl | (simp only [List.length_drop, List.length_take]; rfl)) ?_
         with_reducible refine (reno_Ack.calls x199000_1 x199001_1 x199002_1 x199003_1 ((rd_T40 l1 x8_1).f1.f1) ((rd_T40 l1 x8_1).f1.f2) ((rd_T40 l1 x8_1).f1.f8) t214 t215 t216 t217 _ A21.out).mono ?_
         rintro e w39 ⟨rfl, hb⟩
         refine ⟨_, rfl, ?_⟩
         have n0_ := Aside0.mk (blk_below (g := gb193) (o := .cells #[.int .u64 t202, .int .u64 t203, .int .u64 t204, .int .u64 t205, .int .u64 t206, .int .u64 t207, .int .u64 t208, .int .u64 t209, .bool t210] 26 (0, 0)) (by (with_reducible repeat first|apply bN_|apply bD_|apply bA_); exact BK193.out) hb); have n1_ := Aside0.mk (blk_below (g := gb198) (o := .cells #[.int .u64 x199000_1, .int .u64 x199001_1, .int .u64 x199002_1, .int .u64 x199003_1] 24 (0, 0)) (by (with_reducible repeat first|apply bN_|apply bD_|apply bA_); exact BK198.out) hb); have n2_ := Aside0.mk (below_step (by repeat (first | (with_reducible first | exact HB.out | apply b1_ | apply b2_ | apply b3_ | refine bS_ ?_ GE193.out | refine bS_ ?_ GE198.out) | exact HB.out)) hb); clear BK193; clear BK198; clear HB; have BK193 := n0_; have BK198 := n1_; have HB := n2_; clear n0_ n1_ n2_; (try clear hb); (try clear hb2); (try clear hk); (try clear hi)
         refine hK.out _ _ ⟨(blk_cell BK198.out 0).trans rfl, (blk_cell BK198.out 1).trans rfl, (blk_cell BK198.out 2).trans rfl, (blk_cell BK198.out 3).trans rfl, ((HB.out.cell (World.block_lt_of_cell? w _ hw211_0)).trans hw211_0), ((HB.out.cell (World.block_lt_of_cell? w _ hw211_1)).trans hw211_1), ((HB.out.cell (World.block_lt_of_cell? w _ hw211_2)).trans hw211_2), ((HB.out.cell (World.block_lt_of_cell? w _ hw211_3)).trans hw211_3), ((HB.out.cell (World.block_lt_of_cell? w _ hw211_4)).trans hw211_4), ((HB.out.cell (World.block_lt_of_cell? w _ hw211_5)).trans hw211_5), ((HB.out.cell (World.block_lt_of_cell? w _ hw211_6)).trans hw211_6), ((HB.out.cell (World.block_lt_of_cell? w _ hw211_7)).trans hw211_7), ((HB.out.cell (World.block_lt_of_cell? w _ hw211_8)).trans hw211_8), ((HB.out.cell (World.block_lt_of_cell? w _ hw211_9)).trans hw211_9), ((HB.out.cell (World.block_lt_of_cell? w _ hw211_10)).trans hw211_10), ((HB.out.cell (World.block_lt_of_cell? w _ hw211_11)).trans hw211_11), ((HB.out.cell (World.block_lt_of_cell? w _ hw211_12)).trans hw211_12), ((HB.out.cell (World.block_lt_of_cell? w _ hw212_0)).trans hw212_0), ((HB.out.cell (World.block_lt_of_cell? w _ hw212_1)).trans hw212_1), ((HB.out.cell (World.block_lt_of_cell? w _ hw212_2)).trans hw212_2), ((HB.out.cell (World.block_lt_of_cell? w _ hw212_3)).trans hw212_3), ((HB.out.cell (World.block_lt_of_cell? w _ hw212_4)).trans hw212_4), ((HB.out.cell (World.block_lt_of_cell? w _ hw212_5)).trans hw212_5), ((HB.out.cell (World.block_lt_of_cell? w _ hw212_6)).trans hw212_6), ((HB.out.cell (World.block_lt_of_cell? w _ hw212_7)).trans hw212_7), ((HB.out.cell (World.block_lt_of_cell? w _ hw212_8)).trans hw212_8), ((HB.out.cell (World.block_lt_of_cell? w _ hw212_9)).trans hw212_9), ((HB.out.cell (World.block_lt_of_cell? w _ hw212_10)).trans hw212_10), ((HB.out.cell (World.block_lt_of_cell? w _ hw212_11)).trans hw212_11), ((HB.out.cell (World.block_lt_of_cell? w _ hw212_12)).trans hw212_12), ((HB.out.cell (World.block_lt_of_cell? w _ hw213_0)).trans hw213_0), ((HB.out.cell (World.block_lt_of_cell? w _ hw213_1)).trans hw213_1), ((HB.out.cell (World.block_lt_of_cell? w _ hw213_2)).trans hw213_2), ((HB.out.cell (World.block_lt_of_cell? w _ hw213_3)).trans hw213_3), ((HB.out.cell (World.block_lt_of_cell? w _ hw213_4)).trans hw213_4), ((HB.out.cell (World.block_lt_of_cell? w _ hw213_5)).trans hw213_5), ((HB.out.cell (World.block_lt_of_cell? w _ hw213_6)).trans hw213_6), ((HB.out.cell (World.block_lt_of_cell? w _ hw213_7)).trans hw213_7), ((HB.out.cell (World.block_lt_of_cell? w _ hw213_8)).trans hw213_8), ((HB.out.cell (World.block_lt_of_cell? w _ hw213_9)).trans hw213_9), ((HB.out.cell (World.block_lt_of_cell? w _ hw213_10)).trans hw213_10), ((HB.out.cell (World.block_lt_of_cell? w _ hw213_11)).trans hw213_11), ((HB.out.cell (World.block_lt_of_cell? w _ hw213_12)).trans hw213_12)⟩ (fun hHeld => ?_)
         clear hK K
         refine norm_ (a' := ?_) ?_ ?_
         rotate_left
         ·show Act.put _ (some 69) _ = _
          simp only [Act.put, sA_, s0_, s1_, i64_w, i32_w]
          rfl
         refine last_ (i := 20) (N := none) #[true, true, true, true, true, true, true, true, true, true, true, true, true, true, true, true, true, true, true, true, true] rfl rfl (one_of HT_.out (by kernel_rfl)) (by decide) (fun K hK => ?_)
         have hs40 : w39.cell? ⟨gb198, 0, none⟩ = some (.int .u64 x199000_1) := (blk_cell BK198.out 0).trans rfl
         have hfs40 := blk_frozen BK198.out 0
         have hns40_0 := NB193_198.out
         have hms40_0 := NB198_193.out
         have hs41 : w39.cell? ⟨gb198, 1, none⟩ = some (.int .u64 x199001_1) := (blk_cell BK198.out 1).trans rfl
         have hfs41 := blk_frozen BK198.out 1
         have hns41_0 := NB193_198.out
         have hms41_0 := NB198_193.out
         have hs42 : w39.cell? ⟨gb198, 2, none⟩ = some (.int .u64 x199002_1) := (blk_cell BK198.out 2).trans rfl
         have hfs42 := blk_frozen BK198.out 2
         have hns42_0 := NB193_198.out
         have hms42_0 := NB198_193.out
         have hs43 : w39.cell? ⟨gb198, 3, none⟩ = some (.int .u64 x199003_1) := (blk_cell BK198.out 3).trans rfl
         have hfs43 := blk_frozen BK198.out 3
         have hns43_0 := NB193_198.out
         have hms43_0 := NB198_193.out
         refine skip_ (w1 := ?_) (by rfl) rfl ?_ ?_
         rotate_left
         ·go_simp
          rfl
         refine hK.out _ _ ?_
         clear hK K
         refine done_ (done_of HT_.out (by kernel_rfl)) ?_
         generalize hst : decide (x194007_1 ≤ ((rd_T40 l1 x8_1).f1.f3)) = st
         go_upto_region 13 with (fail)
         go_cut [89] (fun v89 wc => ∃ (kq : Nat) (x89_21 : Bool), v89 = .bool x89_21 ∧ Aside0 (wigwaglaw14_PragueCalm.j2 kq l1 t183 x8_1 x89_21 t202 t203 t204 t205 t206 t207 t208 t209 t210 t214 t215 t216 t217 = some r) ∧ Aside0 (kq ≤ kj13) ∧ Aside0 (wc.heap[gb193]? = some (.cells #[.int .u64 t202, .int .u64 t203, .int .u64 t204, .int .u64 t205, .int .u64 t206, .int .u64 t207, .int .u64 t208, .int .u64 t209, .bool t210] 26 (0, 0))) ∧ Aside0 (wc.heap[gb198]? = some (.cells #[.int .u64 t214, .int .u64 t215, .int .u64 t216, .int .u64 t217] 24 (0, 0))) ∧ Aside0 (Below w.heap.size w wc))
         case first =>
          have H := HC22.out
          clear HC22
          by_cases c44 : ((rd_T40 l1 x8_1).f1.f3) ≥ x194007_1
          ·rw [if_pos c44] at H
           have c44b0 : decide (x194007_1 ≤ ((rd_T40 l1 x8_1).f1.f3)) = true := decide_eq_true c44
           clear c44
           (have hs_ := hst.symm.trans c44b0; subst hs_)
           by_cases c45 : t206 = (IntKind.u64.wrap (x194004_1 - (IntKind.u64.wrap (Int.tdiv x194004_1 16))))
           ·rw [if_pos c45] at H
            have c45b0 : (t206 == (IntKind.u64.wrap (x194004_1 - (IntKind.u64.wrap (Int.tdiv x194004_1 16))))) = true := beq_iff_eq.mpr c45
            have c45b1 : (t206 != (IntKind.u64.wrap (x194004_1 - (IntKind.u64.wrap (Int.tdiv x194004_1 16))))) = false := bne_eq_false_iff_eq.mpr c45
            clear c45
            by_cases c46 : (((rd_T40 l1 x8_1).f1.f3) ≥ x194007_1)
            ·rw [if_pos c46] at H
             have c46b0 : decide (x194007_1 ≤ ((rd_T40 l1 x8_1).f1.f3)) = true := decide_eq_true c46
             clear c46
             have H' := Aside0.mk H
             clear H; have hnb47 := NB193_198.out; have hnc47 := NB198_193.out; obtain ⟨hcz48_0, hcz48_1, hcz48_2, hcz48_3, hcz48_4, hcz48_5, hcz48_6, hcz48_7, hcz48_8⟩ := cells9_ BK193.out; obtain ⟨hfz48_0, hfz48_1, hfz48_2, hfz48_3, hfz48_4, hfz48_5, hfz48_6, hfz48_7, hfz48_8⟩ := froz9_ BK193.out
             go_wp2
             go_meet
             case rel => exact ⟨_, (false), (by first | rfl | (simp; done) | (simp [*]; done)), H', ⟨by have := HK1.out; have := HJ13.out; first | omega | exact Nat.le_refl _⟩, ⟨by (with_reducible repeat first|apply bN_|apply bD_|apply bA_); refine blk_far ?_ NB193_198.out _; (with_reducible repeat first|apply bN_|apply bD_|apply bA_); refine blk_far ?_ NB193_198.out _; (with_reducible repeat first|apply bN_|apply bD_|apply bA_); refine blk_far ?_ NB193_198.out _; (with_reducible repeat first|apply bN_|apply bD_|apply bA_); refine blk_far ?_ NB193_198.out _; (with_reducible repeat first|apply bN_|apply bD_|apply bA_); exact BK193.out⟩, ⟨by (with_reducible repeat first|apply bN_|apply bD_|apply bA_); refine blk_put (cs := #[.int .u64 t214, .int .u64 t215, .int .u64 t216, .int .u64 x199003_1]) ?_ 3 _ rfl; (with_reducible repeat first|apply bN_|apply bD_|apply bA_); refine blk_put (cs := #[.int .u64 t214, .int .u64 t215, .int .u64 x199002_1, .int .u64 x199003_1]) ?_ 2 _ rfl; (with_reducible repeat first|apply bN_|apply bD_|apply bA_); refine blk_put (cs := #[.int .u64 t214, .int .u64 x199001_1, .int .u64 x199002_1, .int .u64 x199003_1]) ?_ 1 _ rfl; (with_reducible repeat first|apply bN_|apply bD_|apply bA_); refine blk_put (cs := #[.int .u64 x199000_1, .int .u64 x199001_1, .int .u64 x199002_1, .int .u64 x199003_1]) ?_ 0 _ rfl; (with_reducible repeat first|apply bN_|apply bD_|apply bA_); exact BK198.out⟩, ⟨by repeat (first | (with_reducible first | exact HB.out | apply b1_ | apply b2_ | apply b3_ | refine bS_ ?_ GE193.out | refine bS_ ?_ GE198.out) | exact HB.out)⟩⟩
            ·rw [if_neg c46] at H
             have c46b0 : decide (x194007_1 ≤ ((rd_T40 l1 x8_1).f1.f3)) = false := decide_eq_false c46
             exact absurd (c44b0.symm.trans c46b0) (by decide)
           ·rw [if_neg c45] at H
            have c45b0 : (t206 == (IntKind.u64.wrap (x194004_1 - (IntKind.u64.wrap (Int.tdiv x194004_1 16))))) = false := beq_eq_false_iff_ne.mpr c45
            have c45b1 : (t206 != (IntKind.u64.wrap (x194004_1 - (IntKind.u64.wrap (Int.tdiv x194004_1 16))))) = true := bne_iff_ne.mpr c45
            have H' := Aside0.mk H
            clear H; have hnb51 := NB193_198.out; have hnc51 := NB198_193.out; obtain ⟨hcz52_0, hcz52_1, hcz52_2, hcz52_3, hcz52_4, hcz52_5, hcz52_6, hcz52_7, hcz52_8⟩ := cells9_ BK193.out; obtain ⟨hfz52_0, hfz52_1, hfz52_2, hfz52_3, hfz52_4, hfz52_5, hfz52_6, hfz52_7, hfz52_8⟩ := froz9_ BK193.out
            go_wp2
            go_meet
            case rel => exact ⟨_, (true), (by first | rfl | (simp; done) | (simp [*]; done)), H', ⟨by have := HK1.out; have := HJ13.out; first | omega | exact Nat.le_refl _⟩, ⟨by (with_reducible repeat first|apply bN_|apply bD_|apply bA_); refine blk_far ?_ NB193_198.out _; (with_reducible repeat first|apply bN_|apply bD_|apply bA_); refine blk_far ?_ NB193_198.out _; (with_reducible repeat first|apply bN_|apply bD_|apply bA_); refine blk_far ?_ NB193_198.out _; (with_reducible repeat first|apply bN_|apply bD_|apply bA_); refine blk_far ?_ NB193_198.out _; (with_reducible repeat first|apply bN_|apply bD_|apply bA_); exact BK193.out⟩, ⟨by (with_reducible repeat first|apply bN_|apply bD_|apply bA_); refine blk_put (cs := #[.int .u64 t214, .int .u64 t215, .int .u64 t216, .int .u64 x199003_1]) ?_ 3 _ rfl; (with_reducible repeat first|apply bN_|apply bD_|apply bA_); refine blk_put (cs := #[.int .u64 t214, .int .u64 t215, .int .u64 x199002_1, .int .u64 x199003_1]) ?_ 2 _ rfl; (with_reducible repeat first|apply bN_|apply bD_|apply bA_); refine blk_put (cs := #[.int .u64 t214, .int .u64 x199001_1, .int .u64 x199002_1, .int .u64 x199003_1]) ?_ 1 _ rfl; (with_reducible repeat first|apply bN_|apply bD_|apply bA_); refine blk_put (cs := #[.int .u64 x199000_1, .int .u64 x199001_1, .int .u64 x199002_1, .int .u64 x199003_1]) ?_ 0 _ rfl; (with_reducible repeat first|apply bN_|apply bD_|apply bA_); exact BK198.out⟩, ⟨by repeat (first | (with_reducible first | exact HB.out | apply b1_ | apply b2_ | apply b3_ | refine bS_ ?_ GE193.out | refine bS_ ?_ GE198.out) | exact HB.out)⟩⟩
          ·rw [if_neg c44] at H
           have c44b0 : decide (x194007_1 ≤ ((rd_T40 l1 x8_1).f1.f3)) = false := decide_eq_false c44
           clear c44
           (have hs_ := hst.symm.trans c44b0; subst hs_)
           by_cases c53 : (((rd_T40 l1 x8_1).f1.f3) ≥ x194007_1)
           ·rw [if_pos c53] at H
            have c53b0 : decide (x194007_1 ≤ ((rd_T40 l1 x8_1).f1.f3)) = true := decide_eq_true c53
            exact absurd (c44b0.symm.trans c53b0) (by decide)
           ·rw [if_neg c53] at H
            have c53b0 : decide (x194007_1 ≤ ((rd_T40 l1 x8_1).f1.f3)) = false := decide_eq_false c53
            clear c53
            have H' := Aside0.mk H
            clear H; have hnb54 := NB193_198.out; have hnc54 := NB198_193.out; obtain ⟨hcz55_0, hcz55_1, hcz55_2, hcz55_3, hcz55_4, hcz55_5, hcz55_6, hcz55_7, hcz55_8⟩ := cells9_ BK193.out; obtain ⟨hfz55_0, hfz55_1, hfz55_2, hfz55_3, hfz55_4, hfz55_5, hfz55_6, hfz55_7, hfz55_8⟩ := froz9_ BK193.out
            go_wp2
            go_meet
            case rel => exact ⟨_, ((t206 != x194004_1)), (by first | rfl | (simp; done) | (simp [*]; done)), H', ⟨by have := HK1.out; have := HJ13.out; first | omega | exact Nat.le_refl _⟩, ⟨by (with_reducible repeat first|apply bN_|apply bD_|apply bA_); refine blk_far ?_ NB193_198.out _; (with_reducible repeat first|apply bN_|apply bD_|apply bA_); refine blk_far ?_ NB193_198.out _; (with_reducible repeat first|apply bN_|apply bD_|apply bA_); refine blk_far ?_ NB193_198.out _; (with_reducible repeat first|apply bN_|apply bD_|apply bA_); refine blk_far ?_ NB193_198.out _; (with_reducible repeat first|apply bN_|apply bD_|apply bA_); exact BK193.out⟩, ⟨by (with_reducible repeat first|apply bN_|apply bD_|apply bA_); refine blk_put (cs := #[.int .u64 t214, .int .u64 t215, .int .u64 t216, .int .u64 x199003_1]) ?_ 3 _ rfl; (with_reducible repeat first|apply bN_|apply bD_|apply bA_); refine blk_put (cs := #[.int .u64 t214, .int .u64 t215, .int .u64 x199002_1, .int .u64 x199003_1]) ?_ 2 _ rfl; (with_reducible repeat first|apply bN_|apply bD_|apply bA_); refine blk_put (cs := #[.int .u64 t214, .int .u64 x199001_1, .int .u64 x199002_1, .int .u64 x199003_1]) ?_ 1 _ rfl; (with_reducible repeat first|apply bN_|apply bD_|apply bA_); refine blk_put (cs := #[.int .u64 x199000_1, .int .u64 x199001_1, .int .u64 x199002_1, .int .u64 x199003_1]) ?_ 0 _ rfl; (with_reducible repeat first|apply bN_|apply bD_|apply bA_); exact BK198.out⟩, ⟨by repeat (first | (with_reducible first | exact HB.out | apply b1_ | apply b2_ | apply b3_ | refine bS_ ?_ GE193.out | refine bS_ ?_ GE198.out) | exact HB.out)⟩⟩
         case rest =>
          subst hst
          clear HC22; (try clear c1); (try clear c2); (try clear p2); (try clear q2); (try clear hx2); (try clear c4); (try clear c5); (try clear c10); (try clear c20); (try clear p20); (try clear q20); (try clear hx20); (try clear p21); (try clear q21); (try clear hx21); (try clear c44); (try clear c44b0); (try clear c45); (try clear c45b0); (try clear c45b1); (try clear c46); (try clear c46b0); (try clear c47); (try clear c49); (try clear c51); (try clear c53); (try clear c53b0); (try clear c54); (try clear hx201_0); (try clear hx201_1); (try clear hx201_10); (try clear hx201_11); (try clear hx201_12); (try clear hx201_2); (try clear hx201_3); (try clear hx201_4); (try clear hx201_5); (try clear hx201_6); (try clear hx201_7); (try clear hx201_8); (try clear hx201_9); (try clear hx211_0); (try clear hx211_1); (try clear hx211_10); (try clear hx211_11); (try clear hx211_12); (try clear hx211_2); (try clear hx211_3); (try clear hx211_4); (try clear hx211_5); (try clear hx211_6); (try clear hx211_7); (try clear hx211_8); (try clear hx211_9); (try clear hx212_0); (try clear hx212_1); (try clear hx212_10); (try clear hx212_11); (try clear hx212_12); (try clear hx212_2); (try clear hx212_3); (try clear hx212_4); (try clear hx212_5); (try clear hx212_6); (try clear hx212_7); (try clear hx212_8); (try clear hx212_9); (try clear hx213_0); (try clear hx213_1); (try clear hx213_10); (try clear hx213_11); (try clear hx213_12); (try clear hx213_2); (try clear hx213_3); (try clear hx213_4); (try clear hx213_5); (try clear hx213_6); (try clear hx213_7); (try clear hx213_8); (try clear hx213_9); (try clear p201); (try clear p211); (try clear p212); (try clear p213); (try clear q201); (try clear q211); (try clear q212); (try clear q213)
          obtain ⟨kq, x89_21, rfl, HA, HJ21, BK193, BK198, HB⟩ := hcut
          cases kq with
          | zero => exact absurd HA.out (by simp [wigwaglaw14_PragueCalm.j2])
          | succ kj21 =>
           have H := HA.out
           clear HA
           simp only [wigwaglaw14_PragueCalm.j2] at H
           by_cases c56 : x89_21 = true
           ·subst c56
            have H1 : (none) = some r := by rw [if_pos rfl] at H; exact H
            clear H
            have H := H1
            clear H1
            exact absurd H (by simp)
           ·replace c56 := Bool.eq_false_iff.mpr c56
            subst c56
            have H1 : (if (!(t202 == t214) || (!(t203 == t215) || (!(t204 == t216) || (!(t205 == t217))))) = true then (none) else (wigwaglaw14_PragueCalm.l0 kj21 l1 t183 (wrap64 (x8_1 + 1)) t202 t203 t204 t205 t206 t207 t208 t209 t210 t214 t215 t216 t217)) = some r := by rw [if_neg (show ¬ (false = true) by decide)] at H; exact H
            clear H
            have H := H1
            clear H1
            by_cases c57 : (!(t202 == t214) || (!(t203 == t215) || (!(t204 == t216) || (!(t205 == t217))))) = true
            ·rw [if_pos c57] at H
             exact absurd H (by simp)
            ·rw [if_neg c57] at H
             have c57b0 : (!(t202 == t214) || (!(t203 == t215) || (!(t204 == t216) || (!(t205 == t217))))) = false := by simpa using c57
             clear c57
             have H' := Aside0.mk H
             clear H; have hnb58 := NB193_198.out; have hnc58 := NB198_193.out; obtain ⟨hcz59_0, hcz59_1, hcz59_2, hcz59_3, hcz59_4, hcz59_5, hcz59_6, hcz59_7, hcz59_8⟩ := cells9_ BK193.out; obtain ⟨hfz59_0, hfz59_1, hfz59_2, hfz59_3, hfz59_4, hfz59_5, hfz59_6, hfz59_7, hfz59_8⟩ := froz9_ BK193.out; obtain ⟨hcz60_0, hcz60_1, hcz60_2, hcz60_3⟩ := cells4_ BK198.out; obtain ⟨hfz60_0, hfz60_1, hfz60_2, hfz60_3⟩ := froz4_ BK198.out
             go_wp2
             go_roundg kj21
             case measure => have := HK1.out; have := HJ13.out; have := HJ21.out; omega
             case rel => exact ⟨(wrap64 (x8_1 + 1)), (t202), (t203), (t204), (t205), (t206), (t207), (t208), (t209), (t210), (t214), (t215), (t216), (t217), (by first | rfl | (simp; done) | (simp [*]; done)), H', ⟨by have := HK1.out; have := HJ13.out; have := HJ21.out; omega⟩, ⟨by (with_reducible repeat first|apply bN_|apply bD_|apply bA_); exact BK193.out⟩, ⟨by (with_reducible repeat first|apply bN_|apply bD_|apply bA_); exact BK198.out⟩, ⟨by repeat (first | (with_reducible first | exact HB.out | apply b1_ | apply b2_ | apply b3_ | refine bS_ ?_ GE193.out | refine bS_ ?_ GE198.out) | exact HB.out)⟩⟩
        ·rw [if_neg c19] at H
         have c19b0 : (((rd_T40 l1 x8_1).f0) == 1) = false := beq_eq_false_iff_ne.mpr c19
         have c19b1 : (((rd_T40 l1 x8_1).f0) != 1) = true := bne_iff_ne.mpr c19
         by_cases c61 : ((rd_T40 l1 x8_1).f0) = 3
         ·rw [if_pos c61] at H
          have c61b0 : (((rd_T40 l1 x8_1).f0) == 3) = true := beq_iff_eq.mpr c61
          have c61b1 : (((rd_T40 l1 x8_1).f0) != 3) = false := bne_eq_false_iff_eq.mpr c61
          clear c61
          replace H := Option.bind_eq_some_iff.mp H
          obtain ⟨⟨t220, t221, t222, t223, t224, t225, t226, t227, t228⟩, A620, H⟩ := H
          replace H : ((reno_Loss.f x199000_1 x199001_1 x199002_1 x199003_1 ((rd_T40 l1 x8_1).f3) ((rd_T40 l1 x8_1).f1.f0)).bind fun bt231 => (if (!(t220 == bt231.1) || (!(t221 == bt231.2.1) || (!(t222 == bt231.2.2.1) || (!(t223 == bt231.2.2.2))))) = true then (none) else (wigwaglaw14_PragueCalm.l0 kj13 l1 t183 (wrap64 (x8_1 + 1)) t220 t221 t222 t223 t224 t225 t226 t227 t228 bt231.1 bt231.2.1 bt231.2.2.1 bt231.2.2.2))) = some r := H
          have A62 := Aside0.mk A620
          clear A620
          replace H := Option.bind_eq_some_iff.mp H
          obtain ⟨⟨t231, t232, t233, t234⟩, A630, H⟩ := H
          replace H : (if (!(t220 == t231) || (!(t221 == t232) || (!(t222 == t233) || (!(t223 == t234))))) = true then (none) else (wigwaglaw14_PragueCalm.l0 kj13 l1 t183 (wrap64 (x8_1 + 1)) t220 t221 t222 t223 t224 t225 t226 t227 t228 t231 t232 t233 t234)) = some r := H
          have A63 := Aside0.mk A630
          clear A630
          by_cases c64 : (!(t220 == t231) || (!(t221 == t232) || (!(t222 == t233) || (!(t223 == t234))))) = true
          ·rw [if_pos c64] at H
           exact absurd H (by simp)
          ·rw [if_neg c64] at H
           have c64b0 : (!(t220 == t231) || (!(t221 == t232) || (!(t222 == t233) || (!(t223 == t234))))) = false := by simpa using c64
           clear c64
           have H' := Aside0.mk H
           clear H; have hnb65 := NB193_198.out; have hnc65 := NB198_193.out; obtain ⟨hcz66_0, hcz66_1, hcz66_2, hcz66_3, hcz66_4, hcz66_5, hcz66_6, hcz66_7, hcz66_8⟩ := cells9_ BK193.out; obtain ⟨hfz66_0, hfz66_1, hfz66_2, hfz66_3, hfz66_4, hfz66_5, hfz66_6, hfz66_7, hfz66_8⟩ := froz9_ BK193.out
           try go_wp2
           have n0_ := Aside0.mk (blk_drew BK193.out); have n1_ := Aside0.mk (blk_drew BK198.out); have n2_ := Aside0.mk (below_drew1 HB.out); clear BK193; clear BK198; clear HB; have BK193 := n0_; have BK198 := n1_; have HB := n2_; clear n0_ n1_ n2_
           have p199 : 0 ≤ (x8_1 : Int) := of_decide_eq_true (by first | (with_reducible assumption) | assumption)
           have q199 : x8_1 < (l1.length : Int) := of_decide_eq_true (by first | (with_reducible assumption) | assumption)
           obtain ⟨ad199, e199, hx199_0, hx199_1, hx199_2, hx199_3, hx199_4, hx199_5, hx199_6, hx199_7, hx199_8, hx199_9, hx199_10, hx199_11, hx199_12⟩ := at_T40 HR1.out x8_1 p199 q199
           have hw199_12 := hx199_12
           have hw199_11 := hx199_11
           have hw199_10 := hx199_10
           have hw199_9 := hx199_9
           have hw199_8 := hx199_8
           have hw199_7 := hx199_7
           have hw199_6 := hx199_6
           have hw199_5 := hx199_5
           have hw199_4 := hx199_4
           have hw199_3 := hx199_3
           have hw199_2 := hx199_2
           have hw199_1 := hx199_1
           have hw199_0 := hx199_0
           cases e199
           replace hx199_0 := (HB.out.cell (World.block_lt_of_cell? w _ hx199_0)).trans hx199_0
           replace hx199_1 := (HB.out.cell (World.block_lt_of_cell? w _ hx199_1)).trans hx199_1
           replace hx199_2 := (HB.out.cell (World.block_lt_of_cell? w _ hx199_2)).trans hx199_2
           replace hx199_3 := (HB.out.cell (World.block_lt_of_cell? w _ hx199_3)).trans hx199_3
           replace hx199_4 := (HB.out.cell (World.block_lt_of_cell? w _ hx199_4)).trans hx199_4
           replace hx199_5 := (HB.out.cell (World.block_lt_of_cell? w _ hx199_5)).trans hx199_5
           replace hx199_6 := (HB.out.cell (World.block_lt_of_cell? w _ hx199_6)).trans hx199_6
           replace hx199_7 := (HB.out.cell (World.block_lt_of_cell? w _ hx199_7)).trans hx199_7
           replace hx199_8 := (HB.out.cell (World.block_lt_of_cell? w _ hx199_8)).trans hx199_8
           replace hx199_9 := (HB.out.cell (World.block_lt_of_cell? w _ hx199_9)).trans hx199_9
           replace hx199_10 := (HB.out.cell (World.block_lt_of_cell? w _ hx199_10)).trans hx199_10
           replace hx199_11 := (HB.out.cell (World.block_lt_of_cell? w _ hx199_11)).trans hx199_11
           replace hx199_12 := (HB.out.cell (World.block_lt_of_cell? w _ hx199_12)).trans hx199_12
           replace p199 := eq_true p199
           replace q199 := eq_true q199
           refine start_ (n := 10) (S := fun w' => w'.cell? ⟨gb193, 0, none⟩ = some (.int .u64 x194000_1) ∧ w'.cell? ⟨gb193, 1, none⟩ = some (.int .u64 x194001_1) ∧ w'.cell? ⟨gb193, 2, none⟩ = some (.int .u64 x194002_1) ∧ w'.cell? ⟨gb193, 3, none⟩ = some (.int .u64 x194003_1) ∧ w'.cell? ⟨gb193, 4, none⟩ = some (.int .u64 x194004_1) ∧ w'.cell? ⟨gb193, 5, none⟩ = some (.int .u64 x194005_1) ∧ w'.cell? ⟨gb193, 6, none⟩ = some (.int .u64 x194006_1) ∧ w'.cell? ⟨gb193, 7, none⟩ = some (.int .u64 x194007_1) ∧ w'.cell? ⟨gb193, 8, none⟩ = some (.bool x194008_1) ∧ w'.cell? (ad199.add ((x8_1).toNat * 13)) = some (.int .i64 ((rd_T40 l1 x8_1).f0)) ∧ w'.cell? ⟨(ad199.add ((x8_1).toNat * 13)).block, (ad199.add ((x8_1).toNat * 13)).off + 1, none⟩ = some (.int .u64 ((rd_T40 l1 x8_1).f1.f0)) ∧ w'.cell? ⟨(ad199.add ((x8_1).toNat * 13)).block, (ad199.add ((x8_1).toNat * 13)).off + 2, none⟩ = some (.int .u64 ((rd_T40 l1 x8_1).f1.f1)) ∧ w'.cell? ⟨(ad199.add ((x8_1).toNat * 13)).block, (ad199.add ((x8_1).toNat * 13)).off + 3, none⟩ = some (.int .u64 ((rd_T40 l1 x8_1).f1.f2)) ∧ w'.cell? ⟨(ad199.add ((x8_1).toNat * 13)).block, (ad199.add ((x8_1).toNat * 13)).off + 4, none⟩ = some (.int .u64 ((rd_T40 l1 x8_1).f1.f3)) ∧ w'.cell? ⟨(ad199.add ((x8_1).toNat * 13)).block, (ad199.add ((x8_1).toNat * 13)).off + 5, none⟩ = some (.int .u64 ((rd_T40 l1 x8_1).f1.f4)) ∧ w'.cell? ⟨(ad199.add ((x8_1).toNat * 13)).block, (ad199.add ((x8_1).toNat * 13)).off + 6, none⟩ = some (.int .u64 ((rd_T40 l1 x8_1).f1.f5)) ∧ w'.cell? ⟨(ad199.add ((x8_1).toNat * 13)).block, (ad199.add ((x8_1).toNat * 13)).off + 7, none⟩ = some (.int .u64 ((rd_T40 l1 x8_1).f1.f6)) ∧ w'.cell? ⟨(ad199.add ((x8_1).toNat * 13)).block, (ad199.add ((x8_1).toNat * 13)).off + 8, none⟩ = some (.int .u64 ((rd_T40 l1 x8_1).f1.f7)) ∧ w'.cell? ⟨(ad199.add ((x8_1).toNat * 13)).block, (ad199.add ((x8_1).toNat * 13)).off + 9, none⟩ = some (.bool ((rd_T40 l1 x8_1).f1.f8)) ∧ w'.cell? ⟨(ad199.add ((x8_1).toNat * 13)).block, (ad199.add ((x8_1).toNat * 13)).off + 10, none⟩ = some (.bool ((rd_T40 l1 x8_1).f1.f9)) ∧ w'.cell? ⟨(ad199.add ((x8_1).toNat * 13)).block, (ad199.add ((x8_1).toNat * 13)).off + 11, none⟩ = some (.int .u64 ((rd_T40 l1 x8_1).f2)) ∧ w'.cell? ⟨(ad199.add ((x8_1).toNat * 13)).block, (ad199.add ((x8_1).toNat * 13)).off + 12, none⟩ = some (.int .u64 ((rd_T40 l1 x8_1).f3))) (ds := []) #[false, false, false, false, false, false, false, false, false, false] (by kernel_rfl) rfl rfl ⟨(blk_cell BK193.out 0).trans rfl, (blk_cell BK193.out 1).trans rfl, (blk_cell BK193.out 2).trans rfl, (blk_cell BK193.out 3).trans rfl, (blk_cell BK193.out 4).trans rfl, (blk_cell BK193.out 5).trans rfl, (blk_cell BK193.out 6).trans rfl, (blk_cell BK193.out 7).trans rfl, (blk_cell BK193.out 8).trans rfl, ((HB.out.cell (World.block_lt_of_cell? w _ hw199_0)).trans hw199_0), ((HB.out.cell (World.block_lt_of_cell? w _ hw199_1)).trans hw199_1), ((HB.out.cell (World.block_lt_of_cell? w _ hw199_2)).trans hw199_2), ((HB.out.cell (World.block_lt_of_cell? w _ hw199_3)).trans hw199_3), ((HB.out.cell (World.block_lt_of_cell? w _ hw199_4)).trans hw199_4), ((HB.out.cell (World.block_lt_of_cell? w _ hw199_5)).trans hw199_5), ((HB.out.cell (World.block_lt_of_cell? w _ hw199_6)).trans hw199_6), ((HB.out.cell (World.block_lt_of_cell? w _ hw199_7)).trans hw199_7), ((HB.out.cell (World.block_lt_of_cell? w _ hw199_8)).trans hw199_8), ((HB.out.cell (World.block_lt_of_cell? w _ hw199_9)).trans hw199_9), ((HB.out.cell (World.block_lt_of_cell? w _ hw199_10)).trans hw199_10), ((HB.out.cell (World.block_lt_of_cell? w _ hw199_11)).trans hw199_11), ((HB.out.cell (World.block_lt_of_cell? w _ hw199_12)).trans hw199_12)⟩ (fun hHeld => ?_); refine with_tabW wigwaglaw14_PragueCalm.tab8 wigwaglaw14_PragueCalm.bits8 (fun HT_ HW_ => ?_)
           generalize wc.drew = w67 at BK193 BK198 HB hx199_0 hx199_1 hx199_10 hx199_11 hx199_12 hx199_2 hx199_3 hx199_4 hx199_5 hx199_6 hx199_7 hx199_8 hx199_9 hHeld ⊢
           refine pure_ (i := 0) (N := some 27) (v := ?_) (a' := ?_) #[true, false, false, false, false, false, false, false, false, false] rfl rfl (any_of HT_.out (by kernel_rfl)) (fun _ _ _ h => h) (Or.inl ⟨by rfl, ?_⟩) ?_ ?_
           rotate_left; focus (intro w'; go_simp; with_reducible rfl)
           rotate_left; focus (simp only [Act.put, sA_, s0_, s1_, i64_w, i32_w]; rfl)
           refine pure_ (i := 1) (N := some 28) (v := ?_) (a' := ?_) #[true, true, false, false, false, false, false, false, false, false] rfl rfl (any_of HT_.out (by kernel_rfl)) (fun _ _ _ h => h) (Or.inl ⟨by rfl, ?_⟩) ?_ ?_
           rotate_left; focus (intro w'; go_simp; with_reducible rfl)
           rotate_left; focus (simp only [Act.put, sA_, s0_, s1_, i64_w, i32_w]; rfl)
           refine pure_ (i := 2) (N := some 29) (v := ?_) (a' := ?_) #[true, true, true, false, false, false, false, false, false, false] rfl rfl (any_of HT_.out (by kernel_rfl)) (fun _ _ _ h => h) (Or.inl ⟨by rfl, ?_⟩) ?_ ?_
           rotate_left; focus (intro w'; go_simp; with_reducible rfl)
           rotate_left; focus (simp only [Act.put, sA_, s0_, s1_, i64_w, i32_w]; rfl)
           refine pure_ (i := 3) (N := some 30) (v := ?_) (a' := ?_) #[true, true, true, true, false, false, false, false, false, false] rfl rfl (any_of HT_.out (by kernel_rfl)) (fun _ _ _ h => h) (Or.inl ⟨by rfl, ?_⟩) ?_ ?_
           rotate_left; focus (intro w'; go_simp; with_reducible rfl)
           rotate_left; focus (simp only [Act.put, sA_, s0_, s1_, i64_w, i32_w]; rfl)
           refine pure_ (i := 4) (N := some 31) (v := ?_) (a' := ?_) #[true, true, true, true, true, false, false, false, false, false] rfl rfl (any_of HT_.out (by kernel_rfl)) (fun _ _ _ h => h) (Or.inl ⟨by rfl, ?_⟩) ?_ ?_
           rotate_left; focus (intro w'; go_simp; with_reducible rfl)
           rotate_left; focus (simp only [Act.put, sA_, s0_, s1_, i64_w, i32_w]; rfl)
           refine pure_ (i := 6) (N := some 33) (v := ?_) (a' := ?_) #[true, true, true, true, true, false, true, false, false, false] rfl rfl (any_of HT_.out (by kernel_rfl)) (fun _ _ _ h => h) (Or.inl ⟨by rfl, ?_⟩) ?_ ?_
           rotate_left; focus (intro w'; go_simp; with_reducible rfl)
           rotate_left; focus (simp only [Act.put, sA_, s0_, s1_, i64_w, i32_w]; rfl)
           refine take_ (i := 5) (N := some 32) (v := ?_) (a' := ?_) #[true, true, true, true, true, true, true, false, false, false] rfl rfl (take_ofW HT_.out HW_.out (by kernel_rfl)) (fun _ _ _ h => h) (Or.inl ⟨by rfl, ?_⟩) hHeld ?_ ?_
           rotate_left; focus (rintro w' ⟨s0, s1, s2, s3, s4, s5, s6, s7, s8, s9, s10, s11, s12, s13, s14, s15, s16, s17, s18, s19, s20, s21⟩; go_simp; with_reducible rfl)
           rotate_left; focus (simp only [Act.put, sA_, s0_, s1_, i64_w, i32_w]; rfl)
           refine take_ (i := 7) (N := some 34) (v := ?_) (a' := ?_) #[true, true, true, true, true, true, true, true, false, false] rfl rfl (take_ofW HT_.out HW_.out (by kernel_rfl)) (fun _ _ _ h => h) (Or.inl ⟨by rfl, ?_⟩) hHeld ?_ ?_
           rotate_left; focus (rintro w' ⟨s0, s1, s2, s3, s4, s5, s6, s7, s8, s9, s10, s11, s12, s13, s14, s15, s16, s17, s18, s19, s20, s21⟩; go_simp; with_reducible rfl)
           rotate_left; focus (simp only [Act.put, sA_, s0_, s1_, i64_w, i32_w]; rfl)
           refine pure_ (i := 8) (N := some 35) (v := ?_) (a' := ?_) #[true, true, true, true, true, true, true, true, true, false] rfl rfl (any_of HT_.out (by kernel_rfl)) (fun _ _ _ h => h) (Or.inl ⟨by rfl, ?_⟩) ?_ ?_
           rotate_left; focus (intro w'; go_simp; with_reducible rfl)
           rotate_left; focus (simp only [Act.put, sA_, s0_, s1_, i64_w, i32_w]; rfl)
           refine pure_ (i := 9) (N := some 10) (v := ?_) (a' := ?_) #[true, true, true, true, true, true, true, true, true, true] rfl rfl (any_of HT_.out (by kernel_rfl)) (fun _ _ _ h => h) (Or.inl ⟨by rfl, ?_⟩) ?_ ?_
           rotate_left; focus (intro w'; go_simp; with_reducible rfl)
           rotate_left; focus (simp only [Act.put, sA_, s0_, s1_, i64_w, i32_w]; rfl)
           refine done_ (done_of HT_.out (by kernel_rfl)) ?_
           have p200 : 0 ≤ (x8_1 : Int) := of_decide_eq_true (by first | (with_reducible assumption) | assumption)
           have q200 : x8_1 < (l1.length : Int) := of_decide_eq_true (by first | (with_reducible assumption) | assumption)
           obtain ⟨ad200, e200, hx200_0, hx200_1, hx200_2, hx200_3, hx200_4, hx200_5, hx200_6, hx200_7, hx200_8, hx200_9, hx200_10, hx200_11, hx200_12⟩ := at_T40 HR1.out x8_1 p200 q200
           obtain rfl : ad199 = ad200 := (by injection e200)
           replace hx200_0 := (HB.out.cell (World.block_lt_of_cell? w _ hx200_0)).trans hx200_0
           replace hx200_1 := (HB.out.cell (World.block_lt_of_cell? w _ hx200_1)).trans hx200_1
           replace hx200_2 := (HB.out.cell (World.block_lt_of_cell? w _ hx200_2)).trans hx200_2
           replace hx200_3 := (HB.out.cell (World.block_lt_of_cell? w _ hx200_3)).trans hx200_3
           replace hx200_4 := (HB.out.cell (World.block_lt_of_cell? w _ hx200_4)).trans hx200_4
           replace hx200_5 := (HB.out.cell (World.block_lt_of_cell? w _ hx200_5)).trans hx200_5
           replace hx200_6 := (HB.out.cell (World.block_lt_of_cell? w _ hx200_6)).trans hx200_6
           replace hx200_7 := (HB.out.cell (World.block_lt_of_cell? w _ hx200_7)).trans hx200_7
           replace hx200_8 := (HB.out.cell (World.block_lt_of_cell? w _ hx200_8)).trans hx200_8
           replace hx200_9 := (HB.out.cell (World.block_lt_of_cell? w _ hx200_9)).trans hx200_9
           replace hx200_10 := (HB.out.cell (World.block_lt_of_cell? w _ hx200_10)).trans hx200_10
           replace hx200_11 := (HB.out.cell (World.block_lt_of_cell? w _ hx200_11)).trans hx200_11
           replace hx200_12 := (HB.out.cell (World.block_lt_of_cell? w _ hx200_12)).trans hx200_12
           replace p200 := eq_true p200
           replace q200 := eq_true q200
           try go_wp2
           have n0_ := Aside0.mk (blk_drew BK193.out); have n1_ := Aside0.mk (blk_drew BK198.out); have n2_ := Aside0.mk (below_drew1 HB.out); clear BK193; clear BK198; clear HB; have BK193 := n0_; have BK198 := n1_; have HB := n2_; clear n0_ n1_ n2_
           have p218 : 0 ≤ (x8_1 : Int) := of_decide_eq_true (by first | (with_reducible assumption) | assumption)
           have q218 : x8_1 < (l1.length : Int) := of_decide_eq_true (by first | (with_reducible assumption) | assumption)
           obtain ⟨ad218, e218, hx218_0, hx218_1, hx218_2, hx218_3, hx218_4, hx218_5, hx218_6, hx218_7, hx218_8, hx218_9, hx218_10, hx218_11, hx218_12⟩ := at_T40 HR1.out x8_1 p218 q218
           have hw218_12 := hx218_12
           have hw218_11 := hx218_11
           have hw218_10 := hx218_10
           have hw218_9 := hx218_9
           have hw218_8 := hx218_8
           have hw218_7 := hx218_7
           have hw218_6 := hx218_6
           have hw218_5 := hx218_5
           have hw218_4 := hx218_4
           have hw218_3 := hx218_3
           have hw218_2 := hx218_2
           have hw218_1 := hx218_1
           have hw218_0 := hx218_0
           obtain rfl : ad199 = ad218 := (by injection e218)
           replace hx218_0 := (HB.out.cell (World.block_lt_of_cell? w _ hx218_0)).trans hx218_0
           replace hx218_1 := (HB.out.cell (World.block_lt_of_cell? w _ hx218_1)).trans hx218_1
           replace hx218_2 := (HB.out.cell (World.block_lt_of_cell? w _ hx218_2)).trans hx218_2
           replace hx218_3 := (HB.out.cell (World.block_lt_of_cell? w _ hx218_3)).trans hx218_3
           replace hx218_4 := (HB.out.cell (World.block_lt_of_cell? w _ hx218_4)).trans hx218_4
           replace hx218_5 := (HB.out.cell (World.block_lt_of_cell? w _ hx218_5)).trans hx218_5
           replace hx218_6 := (HB.out.cell (World.block_lt_of_cell? w _ hx218_6)).trans hx218_6
           replace hx218_7 := (HB.out.cell (World.block_lt_of_cell? w _ hx218_7)).trans hx218_7
           replace hx218_8 := (HB.out.cell (World.block_lt_of_cell? w _ hx218_8)).trans hx218_8
           replace hx218_9 := (HB.out.cell (World.block_lt_of_cell? w _ hx218_9)).trans hx218_9
           replace hx218_10 := (HB.out.cell (World.block_lt_of_cell? w _ hx218_10)).trans hx218_10
           replace hx218_11 := (HB.out.cell (World.block_lt_of_cell? w _ hx218_11)).trans hx218_11
           replace hx218_12 := (HB.out.cell (World.block_lt_of_cell? w _ hx218_12)).trans hx218_12
           replace p218 := eq_true p218
           replace q218 := eq_true q218
           have p219 : 0 ≤ (x8_1 : Int) := of_decide_eq_true (by first | (with_reducible assumption) | assumption)
           have q219 : x8_1 < (l1.length : Int) := of_decide_eq_true (by first | (with_reducible assumption) | assumption)
           obtain ⟨ad219, e219, hx219_0, hx219_1, hx219_2, hx219_3, hx219_4, hx219_5, hx219_6, hx219_7, hx219_8, hx219_9, hx219_10, hx219_11, hx219_12⟩ := at_T40 HR1.out x8_1 p219 q219
           have hw219_12 := hx219_12
           have hw219_11 := hx219_11
           have hw219_10 := hx219_10
           have hw219_9 := hx219_9
           have hw219_8 := hx219_8
           have hw219_7 := hx219_7
           have hw219_6 := hx219_6
           have hw219_5 := hx219_5
           have hw219_4 := hx219_4
           have hw219_3 := hx219_3
           have hw219_2 := hx219_2
           have hw219_1 := hx219_1
           have hw219_0 := hx219_0
           obtain rfl : ad199 = ad219 := (by injection e219)
           replace hx219_0 := (HB.out.cell (World.block_lt_of_cell? w _ hx219_0)).trans hx219_0
           replace hx219_1 := (HB.out.cell (World.block_lt_of_cell? w _ hx219_1)).trans hx219_1
           replace hx219_2 := (HB.out.cell (World.block_lt_of_cell? w _ hx219_2)).trans hx219_2
           replace hx219_3 := (HB.out.cell (World.block_lt_of_cell? w _ hx219_3)).trans hx219_3
           replace hx219_4 := (HB.out.cell (World.block_lt_of_cell? w _ hx219_4)).trans hx219_4
           replace hx219_5 := (HB.out.cell (World.block_lt_of_cell? w _ hx219_5)).trans hx219_5
           replace hx219_6 := (HB.out.cell (World.block_lt_of_cell? w _ hx219_6)).trans hx219_6
           replace hx219_7 := (HB.out.cell (World.block_lt_of_cell? w _ hx219_7)).trans hx219_7
           replace hx219_8 := (HB.out.cell (World.block_lt_of_cell? w _ hx219_8)).trans hx219_8
           replace hx219_9 := (HB.out.cell (World.block_lt_of_cell? w _ hx219_9)).trans hx219_9
           replace hx219_10 := (HB.out.cell (World.block_lt_of_cell? w _ hx219_10)).trans hx219_10
           replace hx219_11 := (HB.out.cell (World.block_lt_of_cell? w _ hx219_11)).trans hx219_11
           replace hx219_12 := (HB.out.cell (World.block_lt_of_cell? w _ hx219_12)).trans hx219_12
           replace p219 := eq_true p219
           replace q219 := eq_true q219
           refine start_ (n := 14) (S := fun w' => w'.cell? ⟨gb193, 0, none⟩ = some (.int .u64 x194000_1) ∧ w'.cell? ⟨gb193, 1, none⟩ = some (.int .u64 x194001_1) ∧ w'.cell? ⟨gb193, 2, none⟩ = some (.int .u64 x194002_1) ∧ w'.cell? ⟨gb193, 3, none⟩ = some (.int .u64 x194003_1) ∧ w'.cell? ⟨gb193, 4, none⟩ = some (.int .u64 x194004_1) ∧ w'.cell? ⟨gb193, 5, none⟩ = some (.int .u64 x194005_1) ∧ w'.cell? ⟨gb193, 6, none⟩ = some (.int .u64 x194006_1) ∧ w'.cell? ⟨gb193, 7, none⟩ = some (.int .u64 x194007_1) ∧ w'.cell? ⟨gb193, 8, none⟩ = some (.bool x194008_1) ∧ w'.cell? (ad199.add ((x8_1).toNat * 13)) = some (.int .i64 ((rd_T40 l1 x8_1).f0)) ∧ w'.cell? ⟨(ad199.add ((x8_1).toNat * 13)).block, (ad199.add ((x8_1).toNat * 13)).off + 1, none⟩ = some (.int .u64 ((rd_T40 l1 x8_1).f1.f0)) ∧ w'.cell? ⟨(ad199.add ((x8_1).toNat * 13)).block, (ad199.add ((x8_1).toNat * 13)).off + 2, none⟩ = some (.int .u64 ((rd_T40 l1 x8_1).f1.f1)) ∧ w'.cell? ⟨(ad199.add ((x8_1).toNat * 13)).block, (ad199.add ((x8_1).toNat * 13)).off + 3, none⟩ = some (.int .u64 ((rd_T40 l1 x8_1).f1.f2)) ∧ w'.cell? ⟨(ad199.add ((x8_1).toNat * 13)).block, (ad199.add ((x8_1).toNat * 13)).off + 4, none⟩ = some (.int .u64 ((rd_T40 l1 x8_1).f1.f3)) ∧ w'.cell? ⟨(ad199.add ((x8_1).toNat * 13)).block, (ad199.add ((x8_1).toNat * 13)).off + 5, none⟩ = some (.int .u64 ((rd_T40 l1 x8_1).f1.f4)) ∧ w'.cell? ⟨(ad199.add ((x8_1).toNat * 13)).block, (ad199.add ((x8_1).toNat * 13)).off + 6, none⟩ = some (.int .u64 ((rd_T40 l1 x8_1).f1.f5)) ∧ w'.cell? ⟨(ad199.add ((x8_1).toNat * 13)).block, (ad199.add ((x8_1).toNat * 13)).off + 7, none⟩ = some (.int .u64 ((rd_T40 l1 x8_1).f1.f6)) ∧ w'.cell? ⟨(ad199.add ((x8_1).toNat * 13)).block, (ad199.add ((x8_1).toNat * 13)).off + 8, none⟩ = some (.int .u64 ((rd_T40 l1 x8_1).f1.f7)) ∧ w'.cell? ⟨(ad199.add ((x8_1).toNat * 13)).block, (ad199.add ((x8_1).toNat * 13)).off + 9, none⟩ = some (.bool ((rd_T40 l1 x8_1).f1.f8)) ∧ w'.cell? ⟨(ad199.add ((x8_1).toNat * 13)).block, (ad199.add ((x8_1).toNat * 13)).off + 10, none⟩ = some (.bool ((rd_T40 l1 x8_1).f1.f9)) ∧ w'.cell? ⟨(ad199.add ((x8_1).toNat * 13)).block, (ad199.add ((x8_1).toNat * 13)).off + 11, none⟩ = some (.int .u64 ((rd_T40 l1 x8_1).f2)) ∧ w'.cell? ⟨(ad199.add ((x8_1).toNat * 13)).block, (ad199.add ((x8_1).toNat * 13)).off + 12, none⟩ = some (.int .u64 ((rd_T40 l1 x8_1).f3)) ∧ w'.cell? (ad199.add ((x8_1).toNat * 13)) = some (.int .i64 ((rd_T40 l1 x8_1).f0)) ∧ w'.cell? ⟨(ad199.add ((x8_1).toNat * 13)).block, (ad199.add ((x8_1).toNat * 13)).off + 1, none⟩ = some (.int .u64 ((rd_T40 l1 x8_1).f1.f0)) ∧ w'.cell? ⟨(ad199.add ((x8_1).toNat * 13)).block, (ad199.add ((x8_1).toNat * 13)).off + 2, none⟩ = some (.int .u64 ((rd_T40 l1 x8_1).f1.f1)) ∧ w'.cell? ⟨(ad199.add ((x8_1).toNat * 13)).block, (ad199.add ((x8_1).toNat * 13)).off + 3, none⟩ = some (.int .u64 ((rd_T40 l1 x8_1).f1.f2)) ∧ w'.cell? ⟨(ad199.add ((x8_1).toNat * 13)).block, (ad199.add ((x8_1).toNat * 13)).off + 4, none⟩ = some (.int .u64 ((rd_T40 l1 x8_1).f1.f3)) ∧ w'.cell? ⟨(ad199.add ((x8_1).toNat * 13)).block, (ad199.add ((x8_1).toNat * 13)).off + 5, none⟩ = some (.int .u64 ((rd_T40 l1 x8_1).f1.f4)) ∧ w'.cell? ⟨(ad199.add ((x8_1).toNat * 13)).block, (ad199.add ((x8_1).toNat * 13)).off + 6, none⟩ = some (.int .u64 ((rd_T40 l1 x8_1).f1.f5)) ∧ w'.cell? ⟨(ad199.add ((x8_1).toNat * 13)).block, (ad199.add ((x8_1).toNat * 13)).off + 7, none⟩ = some (.int .u64 ((rd_T40 l1 x8_1).f1.f6)) ∧ w'.cell? ⟨(ad199.add ((x8_1).toNat * 13)).block, (ad199.add ((x8_1).toNat * 13)).off + 8, none⟩ = some (.int .u64 ((rd_T40 l1 x8_1).f1.f7)) ∧ w'.cell? ⟨(ad199.add ((x8_1).toNat * 13)).block, (ad199.add ((x8_1).toNat * 13)).off + 9, none⟩ = some (.bool ((rd_T40 l1 x8_1).f1.f8)) ∧ w'.cell? ⟨(ad199.add ((x8_1).toNat * 13)).block, (ad199.add ((x8_1).toNat * 13)).off + 10, none⟩ = some (.bool ((rd_T40 l1 x8_1).f1.f9)) ∧ w'.cell? ⟨(ad199.add ((x8_1).toNat * 13)).block, (ad199.add ((x8_1).toNat * 13)).off + 11, none⟩ = some (.int .u64 ((rd_T40 l1 x8_1).f2)) ∧ w'.cell? ⟨(ad199.add ((x8_1).toNat * 13)).block, (ad199.add ((x8_1).toNat * 13)).off + 12, none⟩ = some (.int .u64 ((rd_T40 l1 x8_1).f3))) (ds := [13]) #[false, false, false, false, false, false, false, false, false, false, false, false, false, false] (by kernel_rfl) rfl rfl ⟨(blk_cell BK193.out 0).trans rfl, (blk_cell BK193.out 1).trans rfl, (blk_cell BK193.out 2).trans rfl, (blk_cell BK193.out 3).trans rfl, (blk_cell BK193.out 4).trans rfl, (blk_cell BK193.out 5).trans rfl, (blk_cell BK193.out 6).trans rfl, (blk_cell BK193.out 7).trans rfl, (blk_cell BK193.out 8).trans rfl, ((HB.out.cell (World.block_lt_of_cell? w _ hw218_0)).trans hw218_0), ((HB.out.cell (World.block_lt_of_cell? w _ hw218_1)).trans hw218_1), ((HB.out.cell (World.block_lt_of_cell? w _ hw218_2)).trans hw218_2), ((HB.out.cell (World.block_lt_of_cell? w _ hw218_3)).trans hw218_3), ((HB.out.cell (World.block_lt_of_cell? w _ hw218_4)).trans hw218_4), ((HB.out.cell (World.block_lt_of_cell? w _ hw218_5)).trans hw218_5), ((HB.out.cell (World.block_lt_of_cell? w _ hw218_6)).trans hw218_6), ((HB.out.cell (World.block_lt_of_cell? w _ hw218_7)).trans hw218_7), ((HB.out.cell (World.block_lt_of_cell? w _ hw218_8)).trans hw218_8), ((HB.out.cell (World.block_lt_of_cell? w _ hw218_9)).trans hw218_9), ((HB.out.cell (World.block_lt_of_cell? w _ hw218_10)).trans hw218_10), ((HB.out.cell (World.block_lt_of_cell? w _ hw218_11)).trans hw218_11), ((HB.out.cell (World.block_lt_of_cell? w _ hw218_12)).trans hw218_12), ((HB.out.cell (World.block_lt_of_cell? w _ hw219_0)).trans hw219_0), ((HB.out.cell (World.block_lt_of_cell? w _ hw219_1)).trans hw219_1), ((HB.out.cell (World.block_lt_of_cell? w _ hw219_2)).trans hw219_2), ((HB.out.cell (World.block_lt_of_cell? w _ hw219_3)).trans hw219_3), ((HB.out.cell (World.block_lt_of_cell? w _ hw219_4)).trans hw219_4), ((HB.out.cell (World.block_lt_of_cell? w _ hw219_5)).trans hw219_5), ((HB.out.cell (World.block_lt_of_cell? w _ hw219_6)).trans hw219_6), ((HB.out.cell (World.block_lt_of_cell? w _ hw219_7)).trans hw219_7), ((HB.out.cell (World.block_lt_of_cell? w _ hw219_8)).trans hw219_8), ((HB.out.cell (World.block_lt_of_cell? w _ hw219_9)).trans hw219_9), ((HB.out.cell (World.block_lt_of_cell? w _ hw219_10)).trans hw219_10), ((HB.out.cell (World.block_lt_of_cell? w _ hw219_11)).trans hw219_11), ((HB.out.cell (World.block_lt_of_cell? w _ hw219_12)).trans hw219_12)⟩ (fun hHeld => ?_); refine with_tabW wigwaglaw14_PragueCalm.tab16 wigwaglaw14_PragueCalm.bits16 (fun HT_ HW_ => ?_)
           generalize w67.drew = w68 at BK193 BK198 HB hx218_0 hx218_1 hx218_10 hx218_11 hx218_12 hx218_2 hx218_3 hx218_4 hx218_5 hx218_6 hx218_7 hx218_8 hx218_9 hx219_0 hx219_1 hx219_10 hx219_11 hx219_12 hx219_2 hx219_3 hx219_4 hx219_5 hx219_6 hx219_7 hx219_8 hx219_9 hHeld ⊢
           refine pure_ (i := 1) (N := some 93) (v := ?_) (a' := ?_) #[false, true, false, false, false, false, false, false, false, false, false, false, false, false] rfl rfl (any_of HT_.out (by kernel_rfl)) (fun _ _ _ h => h) (Or.inl ⟨by rfl, ?_⟩) ?_ ?_
           rotate_left; focus (intro w'; go_simp; with_reducible rfl)
           rotate_left; focus (simp only [Act.put, sA_, s0_, s1_, i64_w, i32_w]; rfl)
           refine pure_ (i := 2) (N := some 94) (v := ?_) (a' := ?_) #[false, true, true, false, false, false, false, false, false, false, false, false, false, false] rfl rfl (any_of HT_.out (by kernel_rfl)) (fun _ _ _ h => h) (Or.inl ⟨by rfl, ?_⟩) ?_ ?_
           rotate_left; focus (intro w'; go_simp; with_reducible rfl)
           rotate_left; focus (simp only [Act.put, sA_, s0_, s1_, i64_w, i32_w]; rfl)
           refine pure_ (i := 3) (N := some 95) (v := ?_) (a' := ?_) #[false, true, true, true, false, false, false, false, false, false, false, false, false, false] rfl rfl (any_of HT_.out (by kernel_rfl)) (fun _ _ _ h => h) (Or.inl ⟨by rfl, ?_⟩) ?_ ?_
           rotate_left; focus (intro w'; go_simp; with_reducible rfl)
           rotate_left; focus (simp only [Act.put, sA_, s0_, s1_, i64_w, i32_w]; rfl)
           refine pure_ (i := 4) (N := some 96) (v := ?_) (a' := ?_) #[false, true, true, true, true, false, false, false, false, false, false, false, false, false] rfl rfl (any_of HT_.out (by kernel_rfl)) (fun _ _ _ h => h) (Or.inl ⟨by rfl, ?_⟩) ?_ ?_
           rotate_left; focus (intro w'; go_simp; with_reducible rfl)
           rotate_left; focus (simp only [Act.put, sA_, s0_, s1_, i64_w, i32_w]; rfl)
           refine pure_ (i := 6) (N := some 98) (v := ?_) (a' := ?_) #[false, true, true, true, true, false, true, false, false, false, false, false, false, false] rfl rfl (any_of HT_.out (by kernel_rfl)) (fun _ _ _ h => h) (Or.inl ⟨by rfl, ?_⟩) ?_ ?_
           rotate_left; focus (intro w'; go_simp; with_reducible rfl)
           rotate_left; focus (simp only [Act.put, sA_, s0_, s1_, i64_w, i32_w]; rfl)
           refine pure_ (i := 7) (N := some 99) (v := ?_) (a' := ?_) #[false, true, true, true, true, false, true, true, false, false, false, false, false, false] rfl rfl (any_of HT_.out (by kernel_rfl)) (fun _ _ _ h => h) (Or.inl ⟨by rfl, ?_⟩) ?_ ?_
           rotate_left; focus (intro w'; go_simp; with_reducible rfl)
           rotate_left; focus (simp only [Act.put, sA_, s0_, s1_, i64_w, i32_w]; rfl)
           refine pure_ (i := 8) (N := some 100) (v := ?_) (a' := ?_) #[false, true, true, true, true, false, true, true, true, false, false, false, false, false] rfl rfl (any_of HT_.out (by kernel_rfl)) (fun _ _ _ h => h) (Or.inl ⟨by rfl, ?_⟩) ?_ ?_
           rotate_left; focus (intro w'; go_simp; with_reducible rfl)
           rotate_left; focus (simp only [Act.put, sA_, s0_, s1_, i64_w, i32_w]; rfl)
           refine pure_ (i := 9) (N := some 101) (v := ?_) (a' := ?_) #[false, true, true, true, true, false, true, true, true, true, false, false, false, false] rfl rfl (any_of HT_.out (by kernel_rfl)) (fun _ _ _ h => h) (Or.inl ⟨by rfl, ?_⟩) ?_ ?_
           rotate_left; focus (intro w'; go_simp; with_reducible rfl)
           rotate_left; focus (simp only [Act.put, sA_, s0_, s1_, i64_w, i32_w]; rfl)
           refine pure_ (i := 10) (N := some 102) (v := ?_) (a' := ?_) #[false, true, true, true, true, false, true, true, true, true, true, false, false, false] rfl rfl (any_of HT_.out (by kernel_rfl)) (fun _ _ _ h => h) (Or.inl ⟨by rfl, ?_⟩) ?_ ?_
           rotate_left; focus (intro w'; go_simp; with_reducible rfl)
           rotate_left; focus (simp only [Act.put, sA_, s0_, s1_, i64_w, i32_w]; rfl)
           refine take_ (i := 0) (N := some 92) (v := ?_) (a' := ?_) #[true, true, true, true, true, false, true, true, true, true, true, false, false, false] rfl rfl (take_ofW HT_.out HW_.out (by kernel_rfl)) (fun _ _ _ h => h) (Or.inl ⟨by rfl, ?_⟩) hHeld ?_ ?_
           rotate_left; focus (rintro w' ⟨s0, s1, s2, s3, s4, s5, s6, s7, s8, s9, s10, s11, s12, s13, s14, s15, s16, s17, s18, s19, s20, s21, s22, s23, s24, s25, s26, s27, s28, s29, s30, s31, s32, s33, s34⟩; go_simp; with_reducible rfl)
           rotate_left; focus (simp only [Act.put, sA_, s0_, s1_, i64_w, i32_w]; rfl)
           refine take_ (i := 5) (N := some 97) (v := ?_) (a' := ?_) #[true, true, true, true, true, true, true, true, true, true, true, false, false, false] rfl rfl (take_ofW HT_.out HW_.out (by kernel_rfl)) (fun _ _ _ h => h) (Or.inl ⟨by rfl, ?_⟩) hHeld ?_ ?_
           rotate_left; focus (rintro w' ⟨s0, s1, s2, s3, s4, s5, s6, s7, s8, s9, s10, s11, s12, s13, s14, s15, s16, s17, s18, s19, s20, s21, s22, s23, s24, s25, s26, s27, s28, s29, s30, s31, s32, s33, s34⟩; go_simp; with_reducible rfl)
           rotate_left; focus (simp only [Act.put, sA_, s0_, s1_, i64_w, i32_w]; rfl)
           refine take_ (i := 11) (N := some 103) (v := ?_) (a' := ?_) #[true, true, true, true, true, true, true, true, true, true, true, true, false, false] rfl rfl (take_ofW HT_.out HW_.out (by kernel_rfl)) (fun _ _ _ h => h) (Or.inl ⟨by rfl, ?_⟩) hHeld ?_ ?_
           rotate_left; focus (rintro w' ⟨s0, s1, s2, s3, s4, s5, s6, s7, s8, s9, s10, s11, s12, s13, s14, s15, s16, s17, s18, s19, s20, s21, s22, s23, s24, s25, s26, s27, s28, s29, s30, s31, s32, s33, s34⟩; go_simp; with_reducible rfl)
           rotate_left; focus (simp only [Act.put, sA_, s0_, s1_, i64_w, i32_w]; rfl)
           refine one_ (i := 12) (N := some 104) #[true, true, true, true, true, true, true, true, true, true, true, true, true, false] rfl rfl (one_of HT_.out (by kernel_rfl)) (by decide) (fun K hK => ?_)
           refine goes_ Try.func13 (by kernel_rfl) rfl #[.agg #[.int .u64 x194000_1, .int .u64 x194001_1, .int .u64 x194002_1, .int .u64 x194003_1, .int .u64 x194004_1, .int .u64 x194005_1, .int .u64 x194006_1, .int .u64 x194007_1, .bool x194008_1], .int .u64 ((rd_T40 l1 x8_1).f3), .int .u64 ((rd_T40 l1 x8_1).f1.f0)] (by rfl) rfl rfl (by (try simp only [List.map_toArray, List.map_cons, List.map_nil]); first | done | rfl | (simp only [List.length_drop, List.length_take]; rfl)) ?_
           with_reducible refine (prague_Loss.calls x194000_1 x194001_1 x194002_1 x194003_1 x194004_1 x194005_1 x194006_1 x194007_1 x194008_1 ((rd_T40 l1 x8_1).f3) ((rd_T40 l1 x8_1).f1.f0) t220 t221 t222 t223 t224 t225 t226 t227 t228 _ A62.out).mono ?_
           rintro e w69 ⟨rfl, hb⟩
           refine ⟨_, rfl, ?_⟩
           have n0_ := Aside0.mk (blk_below (g := gb193) (o := .cells #[.int .u64 x194000_1, .int .u64 x194001_1, .int .u64 x194002_1, .int .u64 x194003_1, .int .u64 x194004_1, .int .u64 x194005_1, .int .u64 x194006_1, .int .u64 x194007_1, .bool x194008_1] 26 (0, 0)) (by (with_reducible repeat first|apply bN_|apply bD_|apply bA_); exact BK193.out) hb); have n1_ := Aside0.mk (blk_below (g := gb198) (o := .cells #[.int .u64 x199000_1, .int .u64 x199001_1, .int .u64 x199002_1, .int .u64 x199003_1] 24 (0, 0)) (by (with_reducible repeat first|apply bN_|apply bD_|apply bA_); exact BK198.out) hb); have n2_ := Aside0.mk (below_step (by repeat (first | (with_reducible first | exact HB.out | apply b1_ | apply b2_ | apply b3_ | refine bS_ ?_ GE193.out | refine bS_ ?_ GE198.out) | exact HB.out)) hb); clear BK193; clear BK198; clear HB; have BK193 := n0_; have BK198 := n1_; have HB := n2_; clear n0_ n1_ n2_; (try clear hb); (try clear hb2); (try clear hk); (try clear hi)
           refine hK.out _ _ ⟨(blk_cell BK193.out 0).trans rfl, (blk_cell BK193.out 1).trans rfl, (blk_cell BK193.out 2).trans rfl, (blk_cell BK193.out 3).trans rfl, (blk_cell BK193.out 4).trans rfl, (blk_cell BK193.out 5).trans rfl, (blk_cell BK193.out 6).trans rfl, (blk_cell BK193.out 7).trans rfl, (blk_cell BK193.out 8).trans rfl, ((HB.out.cell (World.block_lt_of_cell? w _ hw218_0)).trans hw218_0), ((HB.out.cell (World.block_lt_of_cell? w _ hw218_1)).trans hw218_1), ((HB.out.cell (World.block_lt_of_cell? w _ hw218_2)).trans hw218_2), ((HB.out.cell (World.block_lt_of_cell? w _ hw218_3)).trans hw218_3), ((HB.out.cell (World.block_lt_of_cell? w _ hw218_4)).trans hw218_4), ((HB.out.cell (World.block_lt_of_cell? w _ hw218_5)).trans hw218_5), ((HB.out.cell (World.block_lt_of_cell? w _ hw218_6)).trans hw218_6), ((HB.out.cell (World.block_lt_of_cell? w _ hw218_7)).trans hw218_7), ((HB.out.cell (World.block_lt_of_cell? w _ hw218_8)).trans hw218_8), ((HB.out.cell (World.block_lt_of_cell? w _ hw218_9)).trans hw218_9), ((HB.out.cell (World.block_lt_of_cell? w _ hw218_10)).trans hw218_10), ((HB.out.cell (World.block_lt_of_cell? w _ hw218_11)).trans hw218_11), ((HB.out.cell (World.block_lt_of_cell? w _ hw218_12)).trans hw218_12), ((HB.out.cell (World.block_lt_of_cell? w _ hw219_0)).trans hw219_0), ((HB.out.cell (World.block_lt_of_cell? w _ hw219_1)).trans hw219_1), ((HB.out.cell (World.block_lt_of_cell? w _ hw219_2)).trans hw219_2), ((HB.out.cell (World.block_lt_of_cell? w _ hw219_3)).trans hw219_3), ((HB.out.cell (World.block_lt_of_cell? w _ hw219_4)).trans hw219_4), ((HB.out.cell (World.block_lt_of_cell? w _ hw219_5)).trans hw219_5), ((HB.out.cell (World.block_lt_of_cell? w _ hw219_6)).trans hw219_6), ((HB.out.cell (World.block_lt_of_cell? w _ hw219_7)).trans hw219_7), ((HB.out.cell (World.block_lt_of_cell? w _ hw219_8)).trans hw219_8), ((HB.out.cell (World.block_lt_of_cell? w _ hw219_9)).trans hw219_9), ((HB.out.cell (World.block_lt_of_cell? w _ hw219_10)).trans hw219_10), ((HB.out.cell (World.block_lt_of_cell? w _ hw219_11)).trans hw219_11), ((HB.out.cell (World.block_lt_of_cell? w _ hw219_12)).trans hw219_12)⟩ (fun hHeld => ?_)
           clear hK K
           refine norm_ (a' := ?_) ?_ ?_
           rotate_left
           ·show Act.put _ (some 104) _ = _
            simp only [Act.put, sA_, s0_, s1_, i64_w, i32_w]
            rfl
           refine last_ (i := 13) (N := none) #[true, true, true, true, true, true, true, true, true, true, true, true, true, true] rfl rfl (one_of HT_.out (by kernel_rfl)) (by decide) (fun K hK => ?_)
           have hs70 : w69.cell? ⟨gb193, 0, none⟩ = some (.int .u64 x194000_1) := (blk_cell BK193.out 0).trans rfl
           have hfs70 := blk_frozen BK193.out 0
           have hns70_1 := NB198_193.out
           have hms70_1 := NB193_198.out
           have hs71 : w69.cell? ⟨gb193, 1, none⟩ = some (.int .u64 x194001_1) := (blk_cell BK193.out 1).trans rfl
           have hfs71 := blk_frozen BK193.out 1
           have hns71_1 := NB198_193.out
           have hms71_1 := NB193_198.out
           have hs72 : w69.cell? ⟨gb193, 2, none⟩ = some (.int .u64 x194002_1) := (blk_cell BK193.out 2).trans rfl
           have hfs72 := blk_frozen BK193.out 2
           have hns72_1 := NB198_193.out
           have hms72_1 := NB193_198.out
           have hs73 : w69.cell? ⟨gb193, 3, none⟩ = some (.int .u64 x194003_1) := (blk_cell BK193.out 3).trans rfl
           have hfs73 := blk_frozen BK193.out 3
           have hns73_1 := NB198_193.out
           have hms73_1 := NB193_198.out
           have hs74 : w69.cell? ⟨gb193, 4, none⟩ = some (.int .u64 x194004_1) := (blk_cell BK193.out 4).trans rfl
           have hfs74 := blk_frozen BK193.out 4
           have hns74_1 := NB198_193.out
           have hms74_1 := NB193_198.out
           have hs75 : w69.cell? ⟨gb193, 5, none⟩ = some (.int .u64 x194005_1) := (blk_cell BK193.out 5).trans rfl
           have hfs75 := blk_frozen BK193.out 5
           have hns75_1 := NB198_193.out
           have hms75_1 := NB193_198.out
           have hs76 : w69.cell? ⟨gb193, 6, none⟩ = some (.int .u64 x194006_1) := (blk_cell BK193.out 6).trans rfl
           have hfs76 := blk_frozen BK193.out 6
           have hns76_1 := NB198_193.out
           have hms76_1 := NB193_198.out
           have hs77 : w69.cell? ⟨gb193, 7, none⟩ = some (.int .u64 x194007_1) := (blk_cell BK193.out 7).trans rfl
           have hfs77 := blk_frozen BK193.out 7
           have hns77_1 := NB198_193.out
           have hms77_1 := NB193_198.out
           have hs78 : w69.cell? ⟨gb193, 8, none⟩ = some (.bool x194008_1) := (blk_cell BK193.out 8).trans rfl
           have hfs78 := blk_frozen BK193.out 8
           have hns78_1 := NB198_193.out
           have hms78_1 := NB193_198.out
           refine skip_ (w1 := ?_) (by rfl) rfl ?_ ?_
           rotate_left
           ·go_simp
            rfl
           refine hK.out _ _ ?_
           clear hK K
           refine done_ (done_of HT_.out (by kernel_rfl)) ?_
           try go_wp2
           generalize hW_ : (((((((((w69.setCell ⟨gb193, 0, none⟩ (.int .u64 t220)).setCell ⟨gb193, 1, none⟩ (.int .u64 t221)).setCell ⟨gb193, 2, none⟩ (.int .u64 t222)).setCell ⟨gb193, 3, none⟩ (.int .u64 t223)).setCell ⟨gb193, 4, none⟩ (.int .u64 t224)).setCell ⟨gb193, 5, none⟩ (.int .u64 t225)).setCell ⟨gb193, 6, none⟩ (.int .u64 t226)).setCell ⟨gb193, 7, none⟩ (.int .u64 t227)).setCell ⟨gb193, 8, none⟩ (.bool t228)) = w79
           have n0_ : Aside0 (w79.heap[gb193]? = some (.cells #[.int .u64 t220, .int .u64 t221, .int .u64 t222, .int .u64 t223, .int .u64 t224, .int .u64 t225, .int .u64 t226, .int .u64 t227, .bool t228] 26 (0, 0))) := ⟨by rw [← hW_]; exact (by (with_reducible repeat first|apply bN_|apply bD_|apply bA_); refine blk_put (cs := #[.int .u64 t220, .int .u64 t221, .int .u64 t222, .int .u64 t223, .int .u64 t224, .int .u64 t225, .int .u64 t226, .int .u64 t227, .bool x194008_1]) ?_ 8 _ rfl; (with_reducible repeat first|apply bN_|apply bD_|apply bA_); refine blk_put (cs := #[.int .u64 t220, .int .u64 t221, .int .u64 t222, .int .u64 t223, .int .u64 t224, .int .u64 t225, .int .u64 t226, .int .u64 x194007_1, .bool x194008_1]) ?_ 7 _ rfl; (with_reducible repeat first|apply bN_|apply bD_|apply bA_); refine blk_put (cs := #[.int .u64 t220, .int .u64 t221, .int .u64 t222, .int .u64 t223, .int .u64 t224, .int .u64 t225, .int .u64 x194006_1, .int .u64 x194007_1, .bool x194008_1]) ?_ 6 _ rfl; (with_reducible repeat first|apply bN_|apply bD_|apply bA_); refine blk_put (cs := #[.int .u64 t220, .int .u64 t221, .int .u64 t222, .int .u64 t223, .int .u64 t224, .int .u64 x194005_1, .int .u64 x194006_1, .int .u64 x194007_1, .bool x194008_1]) ?_ 5 _ rfl; (with_reducible repeat first|apply bN_|apply bD_|apply bA_); refine blk_put (cs := #[.int .u64 t220, .int .u64 t221, .int .u64 t222, .int .u64 t223, .int .u64 x194004_1, .int .u64 x194005_1, .int .u64 x194006_1, .int .u64 x194007_1, .bool x194008_1]) ?_ 4 _ rfl; (with_reducible repeat first|apply bN_|apply bD_|apply bA_); refine blk_put (cs := #[.int .u64 t220, .int .u64 t221, .int .u64 t222, .int .u64 x194003_1, .int .u64 x194004_1, .int .u64 x194005_1, .int .u64 x194006_1, .int .u64 x194007_1, .bool x194008_1]) ?_ 3 _ rfl; (with_reducible repeat first|apply bN_|apply bD_|apply bA_); refine blk_put (cs := #[.int .u64 t220, .int .u64 t221, .int .u64 x194002_1, .int .u64 x194003_1, .int .u64 x194004_1, .int .u64 x194005_1, .int .u64 x194006_1, .int .u64 x194007_1, .bool x194008_1]) ?_ 2 _ rfl; (with_reducible repeat first|apply bN_|apply bD_|apply bA_); refine blk_put (cs := #[.int .u64 t220, .int .u64 x194001_1, .int .u64 x194002_1, .int .u64 x194003_1, .int .u64 x194004_1, .int .u64 x194005_1, .int .u64 x194006_1, .int .u64 x194007_1, .bool x194008_1]) ?_ 1 _ rfl; (with_reducible repeat first|apply bN_|apply bD_|apply bA_); refine blk_put (cs := #[.int .u64 x194000_1, .int .u64 x194001_1, .int .u64 x194002_1, .int .u64 x194003_1, .int .u64 x194004_1, .int .u64 x194005_1, .int .u64 x194006_1, .int .u64 x194007_1, .bool x194008_1]) ?_ 0 _ rfl; (with_reducible repeat first|apply bN_|apply bD_|apply bA_); exact BK193.out)⟩; have n1_ : Aside0 (w79.heap[gb198]? = some (.cells #[.int .u64 x199000_1, .int .u64 x199001_1, .int .u64 x199002_1, .int .u64 x199003_1] 24 (0, 0))) := ⟨by rw [← hW_]; exact (by (with_reducible repeat first|apply bN_|apply bD_|apply bA_); refine blk_far ?_ NB198_193.out _; (with_reducible repeat first|apply bN_|apply bD_|apply bA_); refine blk_far ?_ NB198_193.out _; (with_reducible repeat first|apply bN_|apply bD_|apply bA_); refine blk_far ?_ NB198_193.out _; (with_reducible repeat first|apply bN_|apply bD_|apply bA_); refine blk_far ?_ NB198_193.out _; (with_reducible repeat first|apply bN_|apply bD_|apply bA_); refine blk_far ?_ NB198_193.out _; (with_reducible repeat first|apply bN_|apply bD_|apply bA_); refine blk_far ?_ NB198_193.out _; (with_reducible repeat first|apply bN_|apply bD_|apply bA_); refine blk_far ?_ NB198_193.out _; (with_reducible repeat first|apply bN_|apply bD_|apply bA_); refine blk_far ?_ NB198_193.out _; (with_reducible repeat first|apply bN_|apply bD_|apply bA_); refine blk_far ?_ NB198_193.out _; (with_reducible repeat first|apply bN_|apply bD_|apply bA_); exact BK198.out)⟩; have n2_ : Aside0 (Below w.heap.size w w79) := ⟨by rw [← hW_]; exact (by repeat (first | (with_reducible first | exact HB.out | apply b1_ | apply b2_ | apply b3_ | refine bS_ ?_ GE193.out | refine bS_ ?_ GE198.out) | exact HB.out))⟩; (try clear BK193); (try clear BK198); (try clear HB); clear hW_; have BK193 := n0_; have BK198 := n1_; have HB := n2_; clear n0_ n1_ n2_; have n0_ := Aside0.mk (blk_drew BK193.out); have n1_ := Aside0.mk (blk_drew BK198.out); have n2_ := Aside0.mk (below_drew1 HB.out); clear BK193; clear BK198; clear HB; have BK193 := n0_; have BK198 := n1_; have HB := n2_; clear n0_ n1_ n2_
           have p229 : 0 ≤ (x8_1 : Int) := of_decide_eq_true (by first | (with_reducible assumption) | assumption)
           have q229 : x8_1 < (l1.length : Int) := of_decide_eq_true (by first | (with_reducible assumption) | assumption)
           obtain ⟨ad229, e229, hx229_0, hx229_1, hx229_2, hx229_3, hx229_4, hx229_5, hx229_6, hx229_7, hx229_8, hx229_9, hx229_10, hx229_11, hx229_12⟩ := at_T40 HR1.out x8_1 p229 q229
           have hw229_12 := hx229_12
           have hw229_11 := hx229_11
           have hw229_10 := hx229_10
           have hw229_9 := hx229_9
           have hw229_8 := hx229_8
           have hw229_7 := hx229_7
           have hw229_6 := hx229_6
           have hw229_5 := hx229_5
           have hw229_4 := hx229_4
           have hw229_3 := hx229_3
           have hw229_2 := hx229_2
           have hw229_1 := hx229_1
           have hw229_0 := hx229_0
           obtain rfl : ad199 = ad229 := (by injection e229)
           replace hx229_0 := (HB.out.cell (World.block_lt_of_cell? w _ hx229_0)).trans hx229_0
           replace hx229_1 := (HB.out.cell (World.block_lt_of_cell? w _ hx229_1)).trans hx229_1
           replace hx229_2 := (HB.out.cell (World.block_lt_of_cell? w _ hx229_2)).trans hx229_2
           replace hx229_3 := (HB.out.cell (World.block_lt_of_cell? w _ hx229_3)).trans hx229_3
           replace hx229_4 := (HB.out.cell (World.block_lt_of_cell? w _ hx229_4)).trans hx229_4
           replace hx229_5 := (HB.out.cell (World.block_lt_of_cell? w _ hx229_5)).trans hx229_5
           replace hx229_6 := (HB.out.cell (World.block_lt_of_cell? w _ hx229_6)).trans hx229_6
           replace hx229_7 := (HB.out.cell (World.block_lt_of_cell? w _ hx229_7)).trans hx229_7
           replace hx229_8 := (HB.out.cell (World.block_lt_of_cell? w _ hx229_8)).trans hx229_8
           replace hx229_9 := (HB.out.cell (World.block_lt_of_cell? w _ hx229_9)).trans hx229_9
           replace hx229_10 := (HB.out.cell (World.block_lt_of_cell? w _ hx229_10)).trans hx229_10
           replace hx229_11 := (HB.out.cell (World.block_lt_of_cell? w _ hx229_11)).trans hx229_11
           replace hx229_12 := (HB.out.cell (World.block_lt_of_cell? w _ hx229_12)).trans hx229_12
           replace p229 := eq_true p229
           replace q229 := eq_true q229
           have p230 : 0 ≤ (x8_1 : Int) := of_decide_eq_true (by first | (with_reducible assumption) | assumption)
           have q230 : x8_1 < (l1.length : Int) := of_decide_eq_true (by first | (with_reducible assumption) | assumption)
           obtain ⟨ad230, e230, hx230_0, hx230_1, hx230_2, hx230_3, hx230_4, hx230_5, hx230_6, hx230_7, hx230_8, hx230_9, hx230_10, hx230_11, hx230_12⟩ := at_T40 HR1.out x8_1 p230 q230
           have hw230_12 := hx230_12
           have hw230_11 := hx230_11
           have hw230_10 := hx230_10
           have hw230_9 := hx230_9
           have hw230_8 := hx230_8
           have hw230_7 := hx230_7
           have hw230_6 := hx230_6
           have hw230_5 := hx230_5
           have hw230_4 := hx230_4
           have hw230_3 := hx230_3
           have hw230_2 := hx230_2
           have hw230_1 := hx230_1
           have hw230_0 := hx230_0
           obtain rfl : ad199 = ad230 := (by injection e230)
           replace hx230_0 := (HB.out.cell (World.block_lt_of_cell? w _ hx230_0)).trans hx230_0
           replace hx230_1 := (HB.out.cell (World.block_lt_of_cell? w _ hx230_1)).trans hx230_1
           replace hx230_2 := (HB.out.cell (World.block_lt_of_cell? w _ hx230_2)).trans hx230_2
           replace hx230_3 := (HB.out.cell (World.block_lt_of_cell? w _ hx230_3)).trans hx230_3
           replace hx230_4 := (HB.out.cell (World.block_lt_of_cell? w _ hx230_4)).trans hx230_4
           replace hx230_5 := (HB.out.cell (World.block_lt_of_cell? w _ hx230_5)).trans hx230_5
           replace hx230_6 := (HB.out.cell (World.block_lt_of_cell? w _ hx230_6)).trans hx230_6
           replace hx230_7 := (HB.out.cell (World.block_lt_of_cell? w _ hx230_7)).trans hx230_7
           replace hx230_8 := (HB.out.cell (World.block_lt_of_cell? w _ hx230_8)).trans hx230_8
           replace hx230_9 := (HB.out.cell (World.block_lt_of_cell? w _ hx230_9)).trans hx230_9
           replace hx230_10 := (HB.out.cell (World.block_lt_of_cell? w _ hx230_10)).trans hx230_10
           replace hx230_11 := (HB.out.cell (World.block_lt_of_cell? w _ hx230_11)).trans hx230_11
           replace hx230_12 := (HB.out.cell (World.block_lt_of_cell? w _ hx230_12)).trans hx230_12
           replace p230 := eq_true p230
           replace q230 := eq_true q230
           refine start_ (n := 14) (S := fun w' => w'.cell? ⟨gb198, 0, none⟩ = some (.int .u64 x199000_1) ∧ w'.cell? ⟨gb198, 1, none⟩ = some (.int .u64 x199001_1) ∧ w'.cell? ⟨gb198, 2, none⟩ = some (.int .u64 x199002_1) ∧ w'.cell? ⟨gb198, 3, none⟩ = some (.int .u64 x199003_1) ∧ w'.cell? (ad199.add ((x8_1).toNat * 13)) = some (.int .i64 ((rd_T40 l1 x8_1).f0)) ∧ w'.cell? ⟨(ad199.add ((x8_1).toNat * 13)).block, (ad199.add ((x8_1).toNat * 13)).off + 1, none⟩ = some (.int .u64 ((rd_T40 l1 x8_1).f1.f0)) ∧ w'.cell? ⟨(ad199.add ((x8_1).toNat * 13)).block, (ad199.add ((x8_1).toNat * 13)).off + 2, none⟩ = some (.int .u64 ((rd_T40 l1 x8_1).f1.f1)) ∧ w'.cell? ⟨(ad199.add ((x8_1).toNat * 13)).block, (ad199.add ((x8_1).toNat * 13)).off + 3, none⟩ = some (.int .u64 ((rd_T40 l1 x8_1).f1.f2)) ∧ w'.cell? ⟨(ad199.add ((x8_1).toNat * 13)).block, (ad199.add ((x8_1).toNat * 13)).off + 4, none⟩ = some (.int .u64 ((rd_T40 l1 x8_1).f1.f3)) ∧ w'.cell? ⟨(ad199.add ((x8_1).toNat * 13)).block, (ad199.add ((x8_1).toNat * 13)).off + 5, none⟩ = some (.int .u64 ((rd_T40 l1 x8_1).f1.f4)) ∧ w'.cell? ⟨(ad199.add ((x8_1).toNat * 13)).block, (ad199.add ((x8_1).toNat * 13)).off + 6, none⟩ = some (.int .u64 ((rd_T40 l1 x8_1).f1.f5)) ∧ w'.cell? ⟨(ad199.add ((x8_1).toNat * 13)).block, (ad199.add ((x8_1).toNat * 13)).off + 7, none⟩ = some (.int .u64 ((rd_T40 l1 x8_1).f1.f6)) ∧ w'.cell? ⟨(ad199.add ((x8_1).toNat * 13)).block, (ad199.add ((x8_1).toNat * 13)).off + 8, none⟩ = some (.int .u64 ((rd_T40 l1 x8_1).f1.f7)) ∧ w'.cell? ⟨(ad199.add ((x8_1).toNat * 13)).block, (ad199.add ((x8_1).toNat * 13)).off + 9, none⟩ = some (.bool ((rd_T40 l1 x8_1).f1.f8)) ∧ w'.cell? ⟨(ad199.add ((x8_1).toNat * 13)).block, (ad199.add ((x8_1).toNat * 13)).off + 10, none⟩ = some (.bool ((rd_T40 l1 x8_1).f1.f9)) ∧ w'.cell? ⟨(ad199.add ((x8_1).toNat * 13)).block, (ad199.add ((x8_1).toNat * 13)).off + 11, none⟩ = some (.int .u64 ((rd_T40 l1 x8_1).f2)) ∧ w'.cell? ⟨(ad199.add ((x8_1).toNat * 13)).block, (ad199.add ((x8_1).toNat * 13)).off + 12, none⟩ = some (.int .u64 ((rd_T40 l1 x8_1).f3)) ∧ w'.cell? (ad199.add ((x8_1).toNat * 13)) = some (.int .i64 ((rd_T40 l1 x8_1).f0)) ∧ w'.cell? ⟨(ad199.add ((x8_1).toNat * 13)).block, (ad199.add ((x8_1).toNat * 13)).off + 1, none⟩ = some (.int .u64 ((rd_T40 l1 x8_1).f1.f0)) ∧ w'.cell? ⟨(ad199.add ((x8_1).toNat * 13)).block, (ad199.add ((x8_1).toNat * 13)).off + 2, none⟩ = some (.int .u64 ((rd_T40 l1 x8_1).f1.f1)) ∧ w'.cell? ⟨(ad199.add ((x8_1).toNat * 13)).block, (ad199.add ((x8_1).toNat * 13)).off + 3, none⟩ = some (.int .u64 ((rd_T40 l1 x8_1).f1.f2)) ∧ w'.cell? ⟨(ad199.add ((x8_1).toNat * 13)).block, (ad199.add ((x8_1).toNat * 13)).off + 4, none⟩ = some (.int .u64 ((rd_T40 l1 x8_1).f1.f3)) ∧ w'.cell? ⟨(ad199.add ((x8_1).toNat * 13)).block, (ad199.add ((x8_1).toNat * 13)).off + 5, none⟩ = some (.int .u64 ((rd_T40 l1 x8_1).f1.f4)) ∧ w'.cell? ⟨(ad199.add ((x8_1).toNat * 13)).block, (ad199.add ((x8_1).toNat * 13)).off + 6, none⟩ = some (.int .u64 ((rd_T40 l1 x8_1).f1.f5)) ∧ w'.cell? ⟨(ad199.add ((x8_1).toNat * 13)).block, (ad199.add ((x8_1).toNat * 13)).off + 7, none⟩ = some (.int .u64 ((rd_T40 l1 x8_1).f1.f6)) ∧ w'.cell? ⟨(ad199.add ((x8_1).toNat * 13)).block, (ad199.add ((x8_1).toNat * 13)).off + 8, none⟩ = some (.int .u64 ((rd_T40 l1 x8_1).f1.f7)) ∧ w'.cell? ⟨(ad199.add ((x8_1).toNat * 13)).block, (ad199.add ((x8_1).toNat * 13)).off + 9, none⟩ = some (.bool ((rd_T40 l1 x8_1).f1.f8)) ∧ w'.cell? ⟨(ad199.add ((x8_1).toNat * 13)).block, (ad199.add ((x8_1).toNat * 13)).off + 10, none⟩ = some (.bool ((rd_T40 l1 x8_1).f1.f9)) ∧ w'.cell? ⟨(ad199.add ((x8_1).toNat * 13)).block, (ad199.add ((x8_1).toNat * 13)).off + 11, none⟩ = some (.int .u64 ((rd_T40 l1 x8_1).f2)) ∧ w'.cell? ⟨(ad199.add ((x8_1).toNat * 13)).block, (ad199.add ((x8_1).toNat * 13)).off + 12, none⟩ = some (.int .u64 ((rd_T40 l1 x8_1).f3))) (ds := [13]) #[false, false, false, false, false, false, false, false, false, false, false, false, false, false] (by kernel_rfl) rfl rfl ⟨(blk_cell BK198.out 0).trans rfl, (blk_cell BK198.out 1).trans rfl, (blk_cell BK198.out 2).trans rfl, (blk_cell BK198.out 3).trans rfl, ((HB.out.cell (World.block_lt_of_cell? w _ hw229_0)).trans hw229_0), ((HB.out.cell (World.block_lt_of_cell? w _ hw229_1)).trans hw229_1), ((HB.out.cell (World.block_lt_of_cell? w _ hw229_2)).trans hw229_2), ((HB.out.cell (World.block_lt_of_cell? w _ hw229_3)).trans hw229_3), ((HB.out.cell (World.block_lt_of_cell? w _ hw229_4)).trans hw229_4), ((HB.out.cell (World.block_lt_of_cell? w _ hw229_5)).trans hw229_5), ((HB.out.cell (World.block_lt_of_cell? w _ hw229_6)).trans hw229_6), ((HB.out.cell (World.block_lt_of_cell? w _ hw229_7)).trans hw229_7), ((HB.out.cell (World.block_lt_of_cell? w _ hw229_8)).trans hw229_8), ((HB.out.cell (World.block_lt_of_cell? w _ hw229_9)).trans hw229_9), ((HB.out.cell (World.block_lt_of_cell? w _ hw229_10)).trans hw229_10), ((HB.out.cell (World.block_lt_of_cell? w _ hw229_11)).trans hw229_11), ((HB.out.cell (World.block_lt_of_cell? w _ hw229_12)).trans hw229_12), ((HB.out.cell (World.block_lt_of_cell? w _ hw230_0)).trans hw230_0), ((HB.out.cell (World.block_lt_of_cell? w _ hw230_1)).trans hw230_1), ((HB.out.cell (World.block_lt_of_cell? w _ hw230_2)).trans hw230_2), ((HB.out.cell (World.block_lt_of_cell? w _ hw230_3)).trans hw230_3), ((HB.out.cell (World.block_lt_of_cell? w _ hw230_4)).trans hw230_4), ((HB.out.cell (World.block_lt_of_cell? w _ hw230_5)).trans hw230_5), ((HB.out.cell (World.block_lt_of_cell? w _ hw230_6)).trans hw230_6), ((HB.out.cell (World.block_lt_of_cell? w _ hw230_7)).trans hw230_7), ((HB.out.cell (World.block_lt_of_cell? w _ hw230_8)).trans hw230_8), ((HB.out.cell (World.block_lt_of_cell? w _ hw230_9)).trans hw230_9), ((HB.out.cell (World.block_lt_of_cell? w _ hw230_10)).trans hw230_10), ((HB.out.cell (World.block_lt_of_cell? w _ hw230_11)).trans hw230_11), ((HB.out.cell (World.block_lt_of_cell? w _ hw230_12)).trans hw230_12)⟩ (fun hHeld => ?_); refine with_tabW wigwaglaw14_PragueCalm.tab17 wigwaglaw14_PragueCalm.bits17 (fun HT_ HW_ => ?_)
           generalize w79.drew = w80 at BK193 BK198 HB hx229_0 hx229_1 hx229_10 hx229_11 hx229_12 hx229_2 hx229_3 hx229_4 hx229_5 hx229_6 hx229_7 hx229_8 hx229_9 hx230_0 hx230_1 hx230_10 hx230_11 hx230_12 hx230_2 hx230_3 hx230_4 hx230_5 hx230_6 hx230_7 hx230_8 hx230_9 hHeld ⊢
           refine pure_ (i := 1) (N := some 106) (v := ?_) (a' := ?_) #[false, true, false, false, false, false, false, false, false, false, false, false, false, false] rfl rfl (any_of HT_.out (by kernel_rfl)) (fun _ _ _ h => h) (Or.inl ⟨by rfl, ?_⟩) ?_ ?_
           rotate_left; focus (intro w'; go_simp; with_reducible rfl)
           rotate_left; focus (simp only [Act.put, sA_, s0_, s1_, i64_w, i32_w]; rfl)
           refine pure_ (i := 2) (N := some 107) (v := ?_) (a' := ?_) #[false, true, true, false, false, false, false, false, false, false, false, false, false, false] rfl rfl (any_of HT_.out (by kernel_rfl)) (fun _ _ _ h => h) (Or.inl ⟨by rfl, ?_⟩) ?_ ?_
           rotate_left; focus (intro w'; go_simp; with_reducible rfl)
           rotate_left; focus (simp only [Act.put, sA_, s0_, s1_, i64_w, i32_w]; rfl)
           refine pure_ (i := 3) (N := some 108) (v := ?_) (a' := ?_) #[false, true, true, true, false, false, false, false, false, false, false, false, false, false] rfl rfl (any_of HT_.out (by kernel_rfl)) (fun _ _ _ h => h) (Or.inl ⟨by rfl, ?_⟩) ?_ ?_
           rotate_left; focus (intro w'; go_simp; with_reducible rfl)
           rotate_left; focus (simp only [Act.put, sA_, s0_, s1_, i64_w, i32_w]; rfl)
           refine pure_ (i := 4) (N := some 109) (v := ?_) (a' := ?_) #[false, true, true, true, true, false, false, false, false, false, false, false, false, false] rfl rfl (any_of HT_.out (by kernel_rfl)) (fun _ _ _ h => h) (Or.inl ⟨by rfl, ?_⟩) ?_ ?_
           rotate_left; focus (intro w'; go_simp; with_reducible rfl)
           rotate_left; focus (simp only [Act.put, sA_, s0_, s1_, i64_w, i32_w]; rfl)
           refine pure_ (i := 6) (N := some 111) (v := ?_) (a' := ?_) #[false, true, true, true, true, false, true, false, false, false, false, false, false, false] rfl rfl (any_of HT_.out (by kernel_rfl)) (fun _ _ _ h => h) (Or.inl ⟨by rfl, ?_⟩) ?_ ?_
           rotate_left; focus (intro w'; go_simp; with_reducible rfl)
           rotate_left; focus (simp only [Act.put, sA_, s0_, s1_, i64_w, i32_w]; rfl)
           refine pure_ (i := 7) (N := some 112) (v := ?_) (a' := ?_) #[false, true, true, true, true, false, true, true, false, false, false, false, false, false] rfl rfl (any_of HT_.out (by kernel_rfl)) (fun _ _ _ h => h) (Or.inl ⟨by rfl, ?_⟩) ?_ ?_
           rotate_left; focus (intro w'; go_simp; with_reducible rfl)
           rotate_left; focus (simp only [Act.put, sA_, s0_, s1_, i64_w, i32_w]; rfl)
           refine pure_ (i := 8) (N := some 113) (v := ?_) (a' := ?_) #[false, true, true, true, true, false, true, true, true, false, false, false, false, false] rfl rfl (any_of HT_.out (by kernel_rfl)) (fun _ _ _ h => h) (Or.inl ⟨by rfl, ?_⟩) ?_ ?_
           rotate_left; focus (intro w'; go_simp; with_reducible rfl)
           rotate_left; focus (simp only [Act.put, sA_, s0_, s1_, i64_w, i32_w]; rfl)
           refine pure_ (i := 9) (N := some 114) (v := ?_) (a' := ?_) #[false, true, true, true, true, false, true, true, true, true, false, false, false, false] rfl rfl (any_of HT_.out (by kernel_rfl)) (fun _ _ _ h => h) (Or.inl ⟨by rfl, ?_⟩) ?_ ?_
           rotate_left; focus (intro w'; go_simp; with_reducible rfl)
           rotate_left; focus (simp only [Act.put, sA_, s0_, s1_, i64_w, i32_w]; rfl)
           refine pure_ (i := 10) (N := some 115) (v := ?_) (a' := ?_) #[false, true, true, true, true, false, true, true, true, true, true, false, false, false] rfl rfl (any_of HT_.out (by kernel_rfl)) (fun _ _ _ h => h) (Or.inl ⟨by rfl, ?_⟩) ?_ ?_
           rotate_left; focus (intro w'; go_simp; with_reducible rfl)
           rotate_left; focus (simp only [Act.put, sA_, s0_, s1_, i64_w, i32_w]; rfl)
           refine take_ (i := 0) (N := some 105) (v := ?_) (a' := ?_) #[true, true, true, true, true, false, true, true, true, true, true, false, false, false] rfl rfl (take_ofW HT_.out HW_.out (by kernel_rfl)) (fun _ _ _ h => h) (Or.inl ⟨by rfl, ?_⟩) hHeld ?_ ?_
           rotate_left; focus (rintro w' ⟨s0, s1, s2, s3, s4, s5, s6, s7, s8, s9, s10, s11, s12, s13, s14, s15, s16, s17, s18, s19, s20, s21, s22, s23, s24, s25, s26, s27, s28, s29⟩; go_simp; with_reducible rfl)
           rotate_left; focus (simp only [Act.put, sA_, s0_, s1_, i64_w, i32_w]; rfl)
           refine take_ (i := 5) (N := some 110) (v := ?_) (a' := ?_) #[true, true, true, true, true, true, true, true, true, true, true, false, false, false] rfl rfl (take_ofW HT_.out HW_.out (by kernel_rfl)) (fun _ _ _ h => h) (Or.inl ⟨by rfl, ?_⟩) hHeld ?_ ?_
           rotate_left; focus (rintro w' ⟨s0, s1, s2, s3, s4, s5, s6, s7, s8, s9, s10, s11, s12, s13, s14, s15, s16, s17, s18, s19, s20, s21, s22, s23, s24, s25, s26, s27, s28, s29⟩; go_simp; with_reducible rfl)
           rotate_left; focus (simp only [Act.put, sA_, s0_, s1_, i64_w, i32_w]; rfl)
           refine take_ (i := 11) (N := some 116) (v := ?_) (a' := ?_) #[true, true, true, true, true, true, true, true, true, true, true, true, false, false] rfl rfl (take_ofW HT_.out HW_.out (by kernel_rfl)) (fun _ _ _ h => h) (Or.inl ⟨by rfl, ?_⟩) hHeld ?_ ?_
           rotate_left; focus (rintro w' ⟨s0, s1, s2, s3, s4, s5, s6, s7, s8, s9, s10, s11, s12, s13, s14, s15, s16, s17, s18, s19, s20, s21, s22, s23, s24, s25, s26, s27, s28, s29⟩; go_simp; with_reducible rfl)
           rotate_left; focus (simp only [Act.put, sA_, s0_, s1_, i64_w, i32_w]; rfl)
           refine one_ (i := 12) (N := some 117) #[true, true, true, true, true, true, true, true, true, true, true, true, true, false] rfl rfl (one_of HT_.out (by kernel_rfl)) (by decide) (fun K hK => ?_)
           refine goes_ Try.func21 (by kernel_rfl) rfl #[.agg #[.int .u64 x199000_1, .int .u64 x199001_1, .int .u64 x199002_1, .int .u64 x199003_1], .int .u64 ((rd_T40 l1 x8_1).f3), .int .u64 ((rd_T40 l1 x8_1).f1.f0)] (by rfl) rfl rfl (by (try simp only [List.map_toArray, List.map_cons, List.map_nil]); first | done | rfl | (simp only [List.length_drop, List.length_take]; rfl)) ?_
           with_reducible refine (reno_Loss.calls x199000_1 x199001_1 x199002_1 x199003_1 ((rd_T40 l1 x8_1).f3) ((rd_T40 l1 x8_1).f1.f0) t231 t232 t233 t234 _ A63.out).mono ?_
           rintro e w81 ⟨rfl, hb⟩
           refine ⟨_, rfl, ?_⟩
           have n0_ := Aside0.mk (blk_below (g := gb193) (o := .cells #[.int .u64 t220, .int .u64 t221, .int .u64 t222, .int .u64 t223, .int .u64 t224, .int .u64 t225, .int .u64 t226, .int .u64 t227, .bool t228] 26 (0, 0)) (by (with_reducible repeat first|apply bN_|apply bD_|apply bA_); exact BK193.out) hb); have n1_ := Aside0.mk (blk_below (g := gb198) (o := .cells #[.int .u64 x199000_1, .int .u64 x199001_1, .int .u64 x199002_1, .int .u64 x199003_1] 24 (0, 0)) (by (with_reducible repeat first|apply bN_|apply bD_|apply bA_); exact BK198.out) hb); have n2_ := Aside0.mk (below_step (by repeat (first | (with_reducible first | exact HB.out | apply b1_ | apply b2_ | apply b3_ | refine bS_ ?_ GE193.out | refine bS_ ?_ GE198.out) | exact HB.out)) hb); clear BK193; clear BK198; clear HB; have BK193 := n0_; have BK198 := n1_; have HB := n2_; clear n0_ n1_ n2_; (try clear hb); (try clear hb2); (try clear hk); (try clear hi)
           refine hK.out _ _ ⟨(blk_cell BK198.out 0).trans rfl, (blk_cell BK198.out 1).trans rfl, (blk_cell BK198.out 2).trans rfl, (blk_cell BK198.out 3).trans rfl, ((HB.out.cell (World.block_lt_of_cell? w _ hw229_0)).trans hw229_0), ((HB.out.cell (World.block_lt_of_cell? w _ hw229_1)).trans hw229_1), ((HB.out.cell (World.block_lt_of_cell? w _ hw229_2)).trans hw229_2), ((HB.out.cell (World.block_lt_of_cell? w _ hw229_3)).trans hw229_3), ((HB.out.cell (World.block_lt_of_cell? w _ hw229_4)).trans hw229_4), ((HB.out.cell (World.block_lt_of_cell? w _ hw229_5)).trans hw229_5), ((HB.out.cell (World.block_lt_of_cell? w _ hw229_6)).trans hw229_6), ((HB.out.cell (World.block_lt_of_cell? w _ hw229_7)).trans hw229_7), ((HB.out.cell (World.block_lt_of_cell? w _ hw229_8)).trans hw229_8), ((HB.out.cell (World.block_lt_of_cell? w _ hw229_9)).trans hw229_9), ((HB.out.cell (World.block_lt_of_cell? w _ hw229_10)).trans hw229_10), ((HB.out.cell (World.block_lt_of_cell? w _ hw229_11)).trans hw229_11), ((HB.out.cell (World.block_lt_of_cell? w _ hw229_12)).trans hw229_12), ((HB.out.cell (World.block_lt_of_cell? w _ hw230_0)).trans hw230_0), ((HB.out.cell (World.block_lt_of_cell? w _ hw230_1)).trans hw230_1), ((HB.out.cell (World.block_lt_of_cell? w _ hw230_2)).trans hw230_2), ((HB.out.cell (World.block_lt_of_cell? w _ hw230_3)).trans hw230_3), ((HB.out.cell (World.block_lt_of_cell? w _ hw230_4)).trans hw230_4), ((HB.out.cell (World.block_lt_of_cell? w _ hw230_5)).trans hw230_5), ((HB.out.cell (World.block_lt_of_cell? w _ hw230_6)).trans hw230_6), ((HB.out.cell (World.block_lt_of_cell? w _ hw230_7)).trans hw230_7), ((HB.out.cell (World.block_lt_of_cell? w _ hw230_8)).trans hw230_8), ((HB.out.cell (World.block_lt_of_cell? w _ hw230_9)).trans hw230_9), ((HB.out.cell (World.block_lt_of_cell? w _ hw230_10)).trans hw230_10), ((HB.out.cell (World.block_lt_of_cell? w _ hw230_11)).trans hw230_11), ((HB.out.cell (World.block_lt_of_cell? w _ hw230_12)).trans hw230_12)⟩ (fun hHeld => ?_)
           clear hK K
           refine norm_ (a' := ?_) ?_ ?_
           rotate_left
           ·show Act.put _ (some 117) _ = _
            simp only [Act.put, sA_, s0_, s1_, i64_w, i32_w]
            rfl
           refine last_ (i := 13) (N := none) #[true, true, true, true, true, true, true, true, true, true, true, true, true, true] rfl rfl (one_of HT_.out (by kernel_rfl)) (by decide) (fun K hK => ?_)
           have hs82 : w81.cell? ⟨gb198, 0, none⟩ = some (.int .u64 x199000_1) := (blk_cell BK198.out 0).trans rfl
           have hfs82 := blk_frozen BK198.out 0
           have hns82_0 := NB193_198.out
           have hms82_0 := NB198_193.out
           have hs83 : w81.cell? ⟨gb198, 1, none⟩ = some (.int .u64 x199001_1) := (blk_cell BK198.out 1).trans rfl
           have hfs83 := blk_frozen BK198.out 1
           have hns83_0 := NB193_198.out
           have hms83_0 := NB198_193.out
           have hs84 : w81.cell? ⟨gb198, 2, none⟩ = some (.int .u64 x199002_1) := (blk_cell BK198.out 2).trans rfl
           have hfs84 := blk_frozen BK198.out 2
           have hns84_0 := NB193_198.out
           have hms84_0 := NB198_193.out
           have hs85 : w81.cell? ⟨gb198, 3, none⟩ = some (.int .u64 x199003_1) := (blk_cell BK198.out 3).trans rfl
           have hfs85 := blk_frozen BK198.out 3
           have hns85_0 := NB193_198.out
           have hms85_0 := NB198_193.out
           refine skip_ (w1 := ?_) (by rfl) rfl ?_ ?_
           rotate_left
           ·go_simp
            rfl
           refine hK.out _ _ ?_
           clear hK K
           refine done_ (done_of HT_.out (by kernel_rfl)) ?_
           obtain ⟨hcz86_0, hcz86_1, hcz86_2, hcz86_3, hcz86_4, hcz86_5, hcz86_6, hcz86_7, hcz86_8⟩ := cells9_ BK193.out; obtain ⟨hfz86_0, hfz86_1, hfz86_2, hfz86_3, hfz86_4, hfz86_5, hfz86_6, hfz86_7, hfz86_8⟩ := froz9_ BK193.out; obtain ⟨hcz87_0, hcz87_1, hcz87_2, hcz87_3⟩ := cells4_ BK198.out; obtain ⟨hfz87_0, hfz87_1, hfz87_2, hfz87_3⟩ := froz4_ BK198.out
           try go_wp2
           go_roundg kj13
           case measure => have := HK1.out; have := HJ13.out; omega
           case rel => exact ⟨(wrap64 (x8_1 + 1)), (t220), (t221), (t222), (t223), (t224), (t225), (t226), (t227), (t228), (t231), (t232), (t233), (t234), (by first | rfl | (simp; done) | (simp [*]; done)), H', ⟨by have := HK1.out; have := HJ13.out; omega⟩, ⟨by (with_reducible repeat first|apply bN_|apply bD_|apply bA_); refine blk_far ?_ NB193_198.out _; (with_reducible repeat first|apply bN_|apply bD_|apply bA_); refine blk_far ?_ NB193_198.out _; (with_reducible repeat first|apply bN_|apply bD_|apply bA_); refine blk_far ?_ NB193_198.out _; (with_reducible repeat first|apply bN_|apply bD_|apply bA_); refine blk_far ?_ NB193_198.out _; (with_reducible repeat first|apply bN_|apply bD_|apply bA_); exact BK193.out⟩, ⟨by (with_reducible repeat first|apply bN_|apply bD_|apply bA_); refine blk_put (cs := #[.int .u64 t231, .int .u64 t232, .int .u64 t233, .int .u64 x199003_1]) ?_ 3 _ rfl; (with_reducible repeat first|apply bN_|apply bD_|apply bA_); refine blk_put (cs := #[.int .u64 t231, .int .u64 t232, .int .u64 x199002_1, .int .u64 x199003_1]) ?_ 2 _ rfl; (with_reducible repeat first|apply bN_|apply bD_|apply bA_); refine blk_put (cs := #[.int .u64 t231, .int .u64 x199001_1, .int .u64 x199002_1, .int .u64 x199003_1]) ?_ 1 _ rfl; (with_reducible repeat first|apply bN_|apply bD_|apply bA_); refine blk_put (cs := #[.int .u64 x199000_1, .int .u64 x199001_1, .int .u64 x199002_1, .int .u64 x199003_1]) ?_ 0 _ rfl; (with_reducible repeat first|apply bN_|apply bD_|apply bA_); exact BK198.out⟩, ⟨by repeat (first | (with_reducible first | exact HB.out | apply b1_ | apply b2_ | apply b3_ | refine bS_ ?_ GE193.out | refine bS_ ?_ GE198.out) | exact HB.out)⟩⟩
         ·rw [if_neg c61] at H
          have c61b0 : (((rd_T40 l1 x8_1).f0) == 3) = false := beq_eq_false_iff_ne.mpr c61
          have c61b1 : (((rd_T40 l1 x8_1).f0) != 3) = true := bne_iff_ne.mpr c61
          by_cases c88 : ((rd_T40 l1 x8_1).f0) = 4
          ·rw [if_pos c88] at H
           have c88b0 : (((rd_T40 l1 x8_1).f0) == 4) = true := beq_iff_eq.mpr c88
           have c88b1 : (((rd_T40 l1 x8_1).f0) != 4) = false := bne_eq_false_iff_eq.mpr c88
           clear c88
           replace H := Option.bind_eq_some_iff.mp H
           obtain ⟨⟨t235, t236, t237, t238, t239, t240, t241, t242, t243⟩, A890, H⟩ := H
           replace H : ((reno_Collapse.f x199000_1 x199001_1 x199002_1 x199003_1).bind fun bt244 => (if (!(t235 == bt244.1) || (!(t236 == bt244.2.1) || (!(t237 == bt244.2.2.1) || (!(t238 == bt244.2.2.2))))) = true then (none) else (wigwaglaw14_PragueCalm.l0 kj13 l1 t183 (wrap64 (x8_1 + 1)) t235 t236 t237 t238 t239 t240 t241 t242 t243 bt244.1 bt244.2.1 bt244.2.2.1 bt244.2.2.2))) = some r := H
           have A89 := Aside0.mk A890
           clear A890
           replace H := Option.bind_eq_some_iff.mp H
           obtain ⟨⟨t244, t245, t246, t247⟩, A900, H⟩ := H
           replace H : (if (!(t235 == t244) || (!(t236 == t245) || (!(t237 == t246) || (!(t238 == t247))))) = true then (none) else (wigwaglaw14_PragueCalm.l0 kj13 l1 t183 (wrap64 (x8_1 + 1)) t235 t236 t237 t238 t239 t240 t241 t242 t243 t244 t245 t246 t247)) = some r := H
           have A90 := Aside0.mk A900
           clear A900
           by_cases c91 : (!(t235 == t244) || (!(t236 == t245) || (!(t237 == t246) || (!(t238 == t247))))) = true
           ·rw [if_pos c91] at H
            exact absurd H (by simp)
           ·rw [if_neg c91] at H
            have c91b0 : (!(t235 == t244) || (!(t236 == t245) || (!(t237 == t246) || (!(t238 == t247))))) = false := by simpa using c91
            clear c91
            have H' := Aside0.mk H
            clear H; have hnb92 := NB193_198.out; have hnc92 := NB198_193.out; obtain ⟨hcz93_0, hcz93_1, hcz93_2, hcz93_3, hcz93_4, hcz93_5, hcz93_6, hcz93_7, hcz93_8⟩ := cells9_ BK193.out; obtain ⟨hfz93_0, hfz93_1, hfz93_2, hfz93_3, hfz93_4, hfz93_5, hfz93_6, hfz93_7, hfz93_8⟩ := froz9_ BK193.out
            try go_wp2
            have n0_ := Aside0.mk (blk_drew BK193.out); have n1_ := Aside0.mk (blk_drew BK198.out); have n2_ := Aside0.mk (below_drew1 HB.out); clear BK193; clear BK198; clear HB; have BK193 := n0_; have BK198 := n1_; have HB := n2_; clear n0_ n1_ n2_
            have p199 : 0 ≤ (x8_1 : Int) := of_decide_eq_true (by first | (with_reducible assumption) | assumption)
            have q199 : x8_1 < (l1.length : Int) := of_decide_eq_true (by first | (with_reducible assumption) | assumption)
            obtain ⟨ad199, e199, hx199_0, hx199_1, hx199_2, hx199_3, hx199_4, hx199_5, hx199_6, hx199_7, hx199_8, hx199_9, hx199_10, hx199_11, hx199_12⟩ := at_T40 HR1.out x8_1 p199 q199
            have hw199_12 := hx199_12
            have hw199_11 := hx199_11
            have hw199_10 := hx199_10
            have hw199_9 := hx199_9
            have hw199_8 := hx199_8
            have hw199_7 := hx199_7
            have hw199_6 := hx199_6
            have hw199_5 := hx199_5
            have hw199_4 := hx199_4
            have hw199_3 := hx199_3
            have hw199_2 := hx199_2
            have hw199_1 := hx199_1
            have hw199_0 := hx199_0
            cases e199
            replace hx199_0 := (HB.out.cell (World.block_lt_of_cell? w _ hx199_0)).trans hx199_0
            replace hx199_1 := (HB.out.cell (World.block_lt_of_cell? w _ hx199_1)).trans hx199_1
            replace hx199_2 := (HB.out.cell (World.block_lt_of_cell? w _ hx199_2)).trans hx199_2
            replace hx199_3 := (HB.out.cell (World.block_lt_of_cell? w _ hx199_3)).trans hx199_3
            replace hx199_4 := (HB.out.cell (World.block_lt_of_cell? w _ hx199_4)).trans hx199_4
            replace hx199_5 := (HB.out.cell (World.block_lt_of_cell? w _ hx199_5)).trans hx199_5
            replace hx199_6 := (HB.out.cell (World.block_lt_of_cell? w _ hx199_6)).trans hx199_6
            replace hx199_7 := (HB.out.cell (World.block_lt_of_cell? w _ hx199_7)).trans hx199_7
            replace hx199_8 := (HB.out.cell (World.block_lt_of_cell? w _ hx199_8)).trans hx199_8
            replace hx199_9 := (HB.out.cell (World.block_lt_of_cell? w _ hx199_9)).trans hx199_9
            replace hx199_10 := (HB.out.cell (World.block_lt_of_cell? w _ hx199_10)).trans hx199_10
            replace hx199_11 := (HB.out.cell (World.block_lt_of_cell? w _ hx199_11)).trans hx199_11
            replace hx199_12 := (HB.out.cell (World.block_lt_of_cell? w _ hx199_12)).trans hx199_12
            replace p199 := eq_true p199
            replace q199 := eq_true q199
            refine start_ (n := 10) (S := fun w' => w'.cell? ⟨gb193, 0, none⟩ = some (.int .u64 x194000_1) ∧ w'.cell? ⟨gb193, 1, none⟩ = some (.int .u64 x194001_1) ∧ w'.cell? ⟨gb193, 2, none⟩ = some (.int .u64 x194002_1) ∧ w'.cell? ⟨gb193, 3, none⟩ = some (.int .u64 x194003_1) ∧ w'.cell? ⟨gb193, 4, none⟩ = some (.int .u64 x194004_1) ∧ w'.cell? ⟨gb193, 5, none⟩ = some (.int .u64 x194005_1) ∧ w'.cell? ⟨gb193, 6, none⟩ = some (.int .u64 x194006_1) ∧ w'.cell? ⟨gb193, 7, none⟩ = some (.int .u64 x194007_1) ∧ w'.cell? ⟨gb193, 8, none⟩ = some (.bool x194008_1) ∧ w'.cell? (ad199.add ((x8_1).toNat * 13)) = some (.int .i64 ((rd_T40 l1 x8_1).f0)) ∧ w'.cell? ⟨(ad199.add ((x8_1).toNat * 13)).block, (ad199.add ((x8_1).toNat * 13)).off + 1, none⟩ = some (.int .u64 ((rd_T40 l1 x8_1).f1.f0)) ∧ w'.cell? ⟨(ad199.add ((x8_1).toNat * 13)).block, (ad199.add ((x8_1).toNat * 13)).off + 2, none⟩ = some (.int .u64 ((rd_T40 l1 x8_1).f1.f1)) ∧ w'.cell? ⟨(ad199.add ((x8_1).toNat * 13)).block, (ad199.add ((x8_1).toNat * 13)).off + 3, none⟩ = some (.int .u64 ((rd_T40 l1 x8_1).f1.f2)) ∧ w'.cell? ⟨(ad199.add ((x8_1).toNat * 13)).block, (ad199.add ((x8_1).toNat * 13)).off + 4, none⟩ = some (.int .u64 ((rd_T40 l1 x8_1).f1.f3)) ∧ w'.cell? ⟨(ad199.add ((x8_1).toNat * 13)).block, (ad199.add ((x8_1).toNat * 13)).off + 5, none⟩ = some (.int .u64 ((rd_T40 l1 x8_1).f1.f4)) ∧ w'.cell? ⟨(ad199.add ((x8_1).toNat * 13)).block, (ad199.add ((x8_1).toNat * 13)).off + 6, none⟩ = some (.int .u64 ((rd_T40 l1 x8_1).f1.f5)) ∧ w'.cell? ⟨(ad199.add ((x8_1).toNat * 13)).block, (ad199.add ((x8_1).toNat * 13)).off + 7, none⟩ = some (.int .u64 ((rd_T40 l1 x8_1).f1.f6)) ∧ w'.cell? ⟨(ad199.add ((x8_1).toNat * 13)).block, (ad199.add ((x8_1).toNat * 13)).off + 8, none⟩ = some (.int .u64 ((rd_T40 l1 x8_1).f1.f7)) ∧ w'.cell? ⟨(ad199.add ((x8_1).toNat * 13)).block, (ad199.add ((x8_1).toNat * 13)).off + 9, none⟩ = some (.bool ((rd_T40 l1 x8_1).f1.f8)) ∧ w'.cell? ⟨(ad199.add ((x8_1).toNat * 13)).block, (ad199.add ((x8_1).toNat * 13)).off + 10, none⟩ = some (.bool ((rd_T40 l1 x8_1).f1.f9)) ∧ w'.cell? ⟨(ad199.add ((x8_1).toNat * 13)).block, (ad199.add ((x8_1).toNat * 13)).off + 11, none⟩ = some (.int .u64 ((rd_T40 l1 x8_1).f2)) ∧ w'.cell? ⟨(ad199.add ((x8_1).toNat * 13)).block, (ad199.add ((x8_1).toNat * 13)).off + 12, none⟩ = some (.int .u64 ((rd_T40 l1 x8_1).f3))) (ds := []) #[false, false, false, false, false, false, false, false, false, false] (by kernel_rfl) rfl rfl ⟨(blk_cell BK193.out 0).trans rfl, (blk_cell BK193.out 1).trans rfl, (blk_cell BK193.out 2).trans rfl, (blk_cell BK193.out 3).trans rfl, (blk_cell BK193.out 4).trans rfl, (blk_cell BK193.out 5).trans rfl, (blk_cell BK193.out 6).trans rfl, (blk_cell BK193.out 7).trans rfl, (blk_cell BK193.out 8).trans rfl, ((HB.out.cell (World.block_lt_of_cell? w _ hw199_0)).trans hw199_0), ((HB.out.cell (World.block_lt_of_cell? w _ hw199_1)).trans hw199_1), ((HB.out.cell (World.block_lt_of_cell? w _ hw199_2)).trans hw199_2), ((HB.out.cell (World.block_lt_of_cell? w _ hw199_3)).trans hw199_3), ((HB.out.cell (World.block_lt_of_cell? w _ hw199_4)).trans hw199_4), ((HB.out.cell (World.block_lt_of_cell? w _ hw199_5)).trans hw199_5), ((HB.out.cell (World.block_lt_of_cell? w _ hw199_6)).trans hw199_6), ((HB.out.cell (World.block_lt_of_cell? w _ hw199_7)).trans hw199_7), ((HB.out.cell (World.block_lt_of_cell? w _ hw199_8)).trans hw199_8), ((HB.out.cell (World.block_lt_of_cell? w _ hw199_9)).trans hw199_9), ((HB.out.cell (World.block_lt_of_cell? w _ hw199_10)).trans hw199_10), ((HB.out.cell (World.block_lt_of_cell? w _ hw199_11)).trans hw199_11), ((HB.out.cell (World.block_lt_of_cell? w _ hw199_12)).trans hw199_12)⟩ (fun hHeld => ?_); refine with_tabW wigwaglaw14_PragueCalm.tab8 wigwaglaw14_PragueCalm.bits8 (fun HT_ HW_ => ?_)
            generalize wc.drew = w94 at BK193 BK198 HB hx199_0 hx199_1 hx199_10 hx199_11 hx199_12 hx199_2 hx199_3 hx199_4 hx199_5 hx199_6 hx199_7 hx199_8 hx199_9 hHeld ⊢
            refine pure_ (i := 0) (N := some 27) (v := ?_) (a' := ?_) #[true, false, false, false, false, false, false, false, false, false] rfl rfl (any_of HT_.out (by kernel_rfl)) (fun _ _ _ h => h) (Or.inl ⟨by rfl, ?_⟩) ?_ ?_
            rotate_left; focus (intro w'; go_simp; with_reducible rfl)
            rotate_left; focus (simp only [Act.put, sA_, s0_, s1_, i64_w, i32_w]; rfl)
            refine pure_ (i := 1) (N := some 28) (v := ?_) (a' := ?_) #[true, true, false, false, false, false, false, false, false, false] rfl rfl (any_of HT_.out (by kernel_rfl)) (fun _ _ _ h => h) (Or.inl ⟨by rfl, ?_⟩) ?_ ?_
            rotate_left; focus (intro w'; go_simp; with_reducible rfl)
            rotate_left; focus (simp only [Act.put, sA_, s0_, s1_, i64_w, i32_w]; rfl)
            refine pure_ (i := 2) (N := some 29) (v := ?_) (a' := ?_) #[true, true, true, false, false, false, false, false, false, false] rfl rfl (any_of HT_.out (by kernel_rfl)) (fun _ _ _ h => h) (Or.inl ⟨by rfl, ?_⟩) ?_ ?_
            rotate_left; focus (intro w'; go_simp; with_reducible rfl)
            rotate_left; focus (simp only [Act.put, sA_, s0_, s1_, i64_w, i32_w]; rfl)
            refine pure_ (i := 3) (N := some 30) (v := ?_) (a' := ?_) #[true, true, true, true, false, false, false, false, false, false] rfl rfl (any_of HT_.out (by kernel_rfl)) (fun _ _ _ h => h) (Or.inl ⟨by rfl, ?_⟩) ?_ ?_
            rotate_left; focus (intro w'; go_simp; with_reducible rfl)
            rotate_left; focus (simp only [Act.put, sA_, s0_, s1_, i64_w, i32_w]; rfl)
            refine pure_ (i := 4) (N := some 31) (v := ?_) (a' := ?_) #[true, true, true, true, true, false, false, false, false, false] rfl rfl (any_of HT_.out (by kernel_rfl)) (fun _ _ _ h => h) (Or.inl ⟨by rfl, ?_⟩) ?_ ?_
            rotate_left; focus (intro w'; go_simp; with_reducible rfl)
            rotate_left; focus (simp only [Act.put, sA_, s0_, s1_, i64_w, i32_w]; rfl)
            refine pure_ (i := 6) (N := some 33) (v := ?_) (a' := ?_) #[true, true, true, true, true, false, true, false, false, false] rfl rfl (any_of HT_.out (by kernel_rfl)) (fun _ _ _ h => h) (Or.inl ⟨by rfl, ?_⟩) ?_ ?_
            rotate_left; focus (intro w'; go_simp; with_reducible rfl)
            rotate_left; focus (simp only [Act.put, sA_, s0_, s1_, i64_w, i32_w]; rfl)
            refine take_ (i := 5) (N := some 32) (v := ?_) (a' := ?_) #[true, true, true, true, true, true, true, false, false, false] rfl rfl (take_ofW HT_.out HW_.out (by kernel_rfl)) (fun _ _ _ h => h) (Or.inl ⟨by rfl, ?_⟩) hHeld ?_ ?_
            rotate_left; focus (rintro w' ⟨s0, s1, s2, s3, s4, s5, s6, s7, s8, s9, s10, s11, s12, s13, s14, s15, s16, s17, s18, s19, s20, s21⟩; go_simp; with_reducible rfl)
            rotate_left; focus (simp only [Act.put, sA_, s0_, s1_, i64_w, i32_w]; rfl)
            refine take_ (i := 7) (N := some 34) (v := ?_) (a' := ?_) #[true, true, true, true, true, true, true, true, false, false] rfl rfl (take_ofW HT_.out HW_.out (by kernel_rfl)) (fun _ _ _ h => h) (Or.inl ⟨by rfl, ?_⟩) hHeld ?_ ?_
            rotate_left; focus (rintro w' ⟨s0, s1, s2, s3, s4, s5, s6, s7, s8, s9, s10, s11, s12, s13, s14, s15, s16, s17, s18, s19, s20, s21⟩; go_simp; with_reducible rfl)
            rotate_left; focus (simp only [Act.put, sA_, s0_, s1_, i64_w, i32_w]; rfl)
            refine pure_ (i := 8) (N := some 35) (v := ?_) (a' := ?_) #[true, true, true, true, true, true, true, true, true, false] rfl rfl (any_of HT_.out (by kernel_rfl)) (fun _ _ _ h => h) (Or.inl ⟨by rfl, ?_⟩) ?_ ?_
            rotate_left; focus (intro w'; go_simp; with_reducible rfl)
            rotate_left; focus (simp only [Act.put, sA_, s0_, s1_, i64_w, i32_w]; rfl)
            refine pure_ (i := 9) (N := some 10) (v := ?_) (a' := ?_) #[true, true, true, true, true, true, true, true, true, true] rfl rfl (any_of HT_.out (by kernel_rfl)) (fun _ _ _ h => h) (Or.inl ⟨by rfl, ?_⟩) ?_ ?_
            rotate_left; focus (intro w'; go_simp; with_reducible rfl)
            rotate_left; focus (simp only [Act.put, sA_, s0_, s1_, i64_w, i32_w]; rfl)
            refine done_ (done_of HT_.out (by kernel_rfl)) ?_
            have p200 : 0 ≤ (x8_1 : Int) := of_decide_eq_true (by first | (with_reducible assumption) | assumption)
            have q200 : x8_1 < (l1.length : Int) := of_decide_eq_true (by first | (with_reducible assumption) | assumption)
            obtain ⟨ad200, e200, hx200_0, hx200_1, hx200_2, hx200_3, hx200_4, hx200_5, hx200_6, hx200_7, hx200_8, hx200_9, hx200_10, hx200_11, hx200_12⟩ := at_T40 HR1.out x8_1 p200 q200
            obtain rfl : ad199 = ad200 := (by injection e200)
            replace hx200_0 := (HB.out.cell (World.block_lt_of_cell? w _ hx200_0)).trans hx200_0
            replace hx200_1 := (HB.out.cell (World.block_lt_of_cell? w _ hx200_1)).trans hx200_1
            replace hx200_2 := (HB.out.cell (World.block_lt_of_cell? w _ hx200_2)).trans hx200_2
            replace hx200_3 := (HB.out.cell (World.block_lt_of_cell? w _ hx200_3)).trans hx200_3
            replace hx200_4 := (HB.out.cell (World.block_lt_of_cell? w _ hx200_4)).trans hx200_4
            replace hx200_5 := (HB.out.cell (World.block_lt_of_cell? w _ hx200_5)).trans hx200_5
            replace hx200_6 := (HB.out.cell (World.block_lt_of_cell? w _ hx200_6)).trans hx200_6
            replace hx200_7 := (HB.out.cell (World.block_lt_of_cell? w _ hx200_7)).trans hx200_7
            replace hx200_8 := (HB.out.cell (World.block_lt_of_cell? w _ hx200_8)).trans hx200_8
            replace hx200_9 := (HB.out.cell (World.block_lt_of_cell? w _ hx200_9)).trans hx200_9
            replace hx200_10 := (HB.out.cell (World.block_lt_of_cell? w _ hx200_10)).trans hx200_10
            replace hx200_11 := (HB.out.cell (World.block_lt_of_cell? w _ hx200_11)).trans hx200_11
            replace hx200_12 := (HB.out.cell (World.block_lt_of_cell? w _ hx200_12)).trans hx200_12
            replace p200 := eq_true p200
            replace q200 := eq_true q200
            obtain ⟨hcz95_0, hcz95_1, hcz95_2, hcz95_3, hcz95_4, hcz95_5, hcz95_6, hcz95_7, hcz95_8⟩ := cells9_ BK193.out; obtain ⟨hfz95_0, hfz95_1, hfz95_2, hfz95_3, hfz95_4, hfz95_5, hfz95_6, hfz95_7, hfz95_8⟩ := froz9_ BK193.out
            try go_wp2_with (first | ((with_reducible refine gate_callee (f := 15) rfl ?_); refine goesL_ (some 121) rfl rfl Try.func15 (by kernel_rfl) rfl #[.agg #[.int .u64 x194000_1, .int .u64 x194001_1, .int .u64 x194002_1, .int .u64 x194003_1, .int .u64 x194004_1, .int .u64 x194005_1, .int .u64 x194006_1, .int .u64 x194007_1, .bool x194008_1]] rfl (by (try simp only [List.map_toArray, List.map_cons, List.map_nil]); first | done | rfl | (simp only [List.length_drop, List.length_take]; rfl)) ?_; (with_reducible refine (prague_Collapse.calls x194000_1 x194001_1 x194002_1 x194003_1 x194004_1 x194005_1 x194006_1 x194007_1 x194008_1 t235 t236 t237 t238 t239 t240 t241 t242 t243 _ A89.out).mono ?_); rintro e w96 ⟨rfl, hb⟩; refine ⟨_, rfl, ?_⟩; have n0_ := Aside0.mk (blk_below (g := gb193) (o := .cells #[.int .u64 x194000_1, .int .u64 x194001_1, .int .u64 x194002_1, .int .u64 x194003_1, .int .u64 x194004_1, .int .u64 x194005_1, .int .u64 x194006_1, .int .u64 x194007_1, .bool x194008_1] 26 (0, 0)) (by (with_reducible repeat first|apply bN_|apply bD_|apply bA_); exact BK193.out) hb); have n1_ := Aside0.mk (blk_below (g := gb198) (o := .cells #[.int .u64 x199000_1, .int .u64 x199001_1, .int .u64 x199002_1, .int .u64 x199003_1] 24 (0, 0)) (by (with_reducible repeat first|apply bN_|apply bD_|apply bA_); exact BK198.out) hb); have n2_ := Aside0.mk (below_step (by repeat (first | (with_reducible first | exact HB.out | apply b1_ | apply b2_ | apply b3_ | refine bS_ ?_ GE193.out | refine bS_ ?_ GE198.out) | exact HB.out)) hb); clear BK193; clear BK198; clear HB; have BK193 := n0_; have BK198 := n1_; have HB := n2_; clear n0_ n1_ n2_; (try clear hb); (try clear hb2); (try clear hk); (try clear hi); obtain ⟨hcz97_0, hcz97_1, hcz97_2, hcz97_3, hcz97_4, hcz97_5, hcz97_6, hcz97_7, hcz97_8⟩ := cells9_ BK193.out; obtain ⟨hfz97_0, hfz97_1, hfz97_2, hfz97_3, hfz97_4, hfz97_5, hfz97_6, hfz97_7, hfz97_8⟩ := froz9_ BK193.out; obtain ⟨hcz98_0, hcz98_1, hcz98_2, hcz98_3⟩ := cells4_ BK198.out; obtain ⟨hfz98_0, hfz98_1, hfz98_2⟩ := froz3_ BK198.out; have hfz98_3 := blk_frozen BK198.out 3) | ((with_reducible refine gate_callee (f := 22) rfl ?_); refine goesL_ (some 123) rfl rfl Try.func22 (by kernel_rfl) rfl #[.agg #[.int .u64 x199000_1, .int .u64 x199001_1, .int .u64 x199002_1, .int .u64 x199003_1]] rfl (by (try simp only [List.map_toArray, List.map_cons, List.map_nil]); first | done | rfl | (simp only [List.length_drop, List.length_take]; rfl)) ?_; (with_reducible refine (reno_Collapse.calls x199000_1 x199001_1 x199002_1 x199003_1 t244 t245 t246 t247 _ A90.out).mono ?_); rintro e w99 ⟨rfl, hb⟩; refine ⟨_, rfl, ?_⟩; have n0_ := Aside0.mk (blk_below (g := gb193) (o := .cells #[.int .u64 t235, .int .u64 t236, .int .u64 t237, .int .u64 t238, .int .u64 t239, .int .u64 t240, .int .u64 t241, .int .u64 t242, .bool t243] 26 (0, 0)) (by (with_reducible repeat first|apply bN_|apply bD_|apply bA_); refine blk_put (cs := #[.int .u64 t235, .int .u64 t236, .int .u64 t237, .int .u64 t238, .int .u64 t239, .int .u64 t240, .int .u64 t241, .int .u64 t242, .bool x194008_1]) ?_ 8 _ rfl; (with_reducible repeat first|apply bN_|apply bD_|apply bA_); refine blk_put (cs := #[.int .u64 t235, .int .u64 t236, .int .u64 t237, .int .u64 t238, .int .u64 t239, .int .u64 t240, .int .u64 t241, .int .u64 x194007_1, .bool x194008_1]) ?_ 7 _ rfl; (with_reducible repeat first|apply bN_|apply bD_|apply bA_); refine blk_put (cs := #[.int .u64 t235, .int .u64 t236, .int .u64 t237, .int .u64 t238, .int .u64 t239, .int .u64 t240, .int .u64 x194006_1, .int .u64 x194007_1, .bool x194008_1]) ?_ 6 _ rfl; (with_reducible repeat first|apply bN_|apply bD_|apply bA_); refine blk_put (cs := #[.int .u64 t235, .int .u64 t236, .int .u64 t237, .int .u64 t238, .int .u64 t239, .int .u64 x194005_1, .int .u64 x194006_1, .int .u64 x194007_1, .bool x194008_1]) ?_ 5 _ rfl; (with_reducible repeat first|apply bN_|apply bD_|apply bA_); refine blk_put (cs := #[.int .u64 t235, .int .u64 t236, .int .u64 t237, .int .u64 t238, .int .u64 x194004_1, .int .u64 x194005_1, .int .u64 x194006_1, .int .u64 x194007_1, .bool x194008_1]) ?_ 4 _ rfl; (with_reducible repeat first|apply bN_|apply bD_|apply bA_); refine blk_put (cs := #[.int .u64 t235, .int .u64 t236, .int .u64 t237, .int .u64 x194003_1, .int .u64 x194004_1, .int .u64 x194005_1, .int .u64 x194006_1, .int .u64 x194007_1, .bool x194008_1]) ?_ 3 _ rfl; (with_reducible repeat first|apply bN_|apply bD_|apply bA_); refine blk_put (cs := #[.int .u64 t235, .int .u64 t236, .int .u64 x194002_1, .int .u64 x194003_1, .int .u64 x194004_1, .int .u64 x194005_1, .int .u64 x194006_1, .int .u64 x194007_1, .bool x194008_1]) ?_ 2 _ rfl; (with_reducible repeat first|apply bN_|apply bD_|apply bA_); refine blk_put (cs := #[.int .u64 t235, .int .u64 x194001_1, .int .u64 x194002_1, .int .u64 x194003_1, .int .u64 x194004_1, .int .u64 x194005_1, .int .u64 x194006_1, .int .u64 x194007_1, .bool x194008_1]) ?_ 1 _ rfl; (with_reducible repeat first|apply bN_|apply bD_|apply bA_); refine blk_put (cs := #[.int .u64 x194000_1, .int .u64 x194001_1, .int .u64 x194002_1, .int .u64 x194003_1, .int .u64 x194004_1, .int .u64 x194005_1, .int .u64 x194006_1, .int .u64 x194007_1, .bool x194008_1]) ?_ 0 _ rfl; (with_reducible repeat first|apply bN_|apply bD_|apply bA_); exact BK193.out) hb); have n1_ := Aside0.mk (blk_below (g := gb198) (o := .cells #[.int .u64 x199000_1, .int .u64 x199001_1, .int .u64 x199002_1, .int .u64 x199003_1] 24 (0, 0)) (by (with_reducible repeat first|apply bN_|apply bD_|apply bA_); refine blk_far ?_ NB198_193.out _; (with_reducible repeat first|apply bN_|apply bD_|apply bA_); refine blk_far ?_ NB198_193.out _; (with_reducible repeat first|apply bN_|apply bD_|apply bA_); refine blk_far ?_ NB198_193.out _; (with_reducible repeat first|apply bN_|apply bD_|apply bA_); refine blk_far ?_ NB198_193.out _; (with_reducible repeat first|apply bN_|apply bD_|apply bA_); refine blk_far ?_ NB198_193.out _; (with_reducible repeat first|apply bN_|apply bD_|apply bA_); refine blk_far ?_ NB198_193.out _; (with_reducible repeat first|apply bN_|apply bD_|apply bA_); refine blk_far ?_ NB198_193.out _; (with_reducible repeat first|apply bN_|apply bD_|apply bA_); refine blk_far ?_ NB198_193.out _; (with_reducible repeat first|apply bN_|apply bD_|apply bA_); refine blk_far ?_ NB198_193.out _; (with_reducible repeat first|apply bN_|apply bD_|apply bA_); exact BK198.out) hb); have n2_ := Aside0.mk (below_step (by repeat (first | (with_reducible first | exact HB.out | apply b1_ | apply b2_ | apply b3_ | refine bS_ ?_ GE193.out | refine bS_ ?_ GE198.out) | exact HB.out)) hb); clear BK193; clear BK198; clear HB; have BK193 := n0_; have BK198 := n1_; have HB := n2_; clear n0_ n1_ n2_; (try clear hb); (try clear hb2); (try clear hk); (try clear hi); obtain ⟨hcz100_0, hcz100_1, hcz100_2, hcz100_3⟩ := cells4_ BK198.out; obtain ⟨hfz100_0, hfz100_1, hfz100_2, hfz100_3⟩ := froz4_ BK198.out; obtain ⟨hcz101_0, hcz101_1, hcz101_2, hcz101_3, hcz101_4, hcz101_5, hcz101_6, hcz101_7, hcz101_8⟩ := cells9_ BK193.out; obtain ⟨hfz101_0, hfz101_1, hfz101_2, hfz101_3, hfz101_4, hfz101_5, hfz101_6, hfz101_7⟩ := froz8_ BK193.out; have hfz101_8 := blk_frozen BK193.out 8))
            go_roundg kj13
            case measure => have := HK1.out; have := HJ13.out; omega
            case rel => exact ⟨(wrap64 (x8_1 + 1)), (t235), (t236), (t237), (t238), (t239), (t240), (t241), (t242), (t243), (t244), (t245), (t246), (t247), (by first | rfl | (simp; done) | (simp [*]; done)), H', ⟨by have := HK1.out; have := HJ13.out; omega⟩, ⟨by (with_reducible repeat first|apply bN_|apply bD_|apply bA_); refine blk_far ?_ NB193_198.out _; (with_reducible repeat first|apply bN_|apply bD_|apply bA_); refine blk_far ?_ NB193_198.out _; (with_reducible repeat first|apply bN_|apply bD_|apply bA_); refine blk_far ?_ NB193_198.out _; (with_reducible repeat first|apply bN_|apply bD_|apply bA_); refine blk_far ?_ NB193_198.out _; (with_reducible repeat first|apply bN_|apply bD_|apply bA_); exact BK193.out⟩, ⟨by (with_reducible repeat first|apply bN_|apply bD_|apply bA_); refine blk_put (cs := #[.int .u64 t244, .int .u64 t245, .int .u64 t246, .int .u64 x199003_1]) ?_ 3 _ rfl; (with_reducible repeat first|apply bN_|apply bD_|apply bA_); refine blk_put (cs := #[.int .u64 t244, .int .u64 t245, .int .u64 x199002_1, .int .u64 x199003_1]) ?_ 2 _ rfl; (with_reducible repeat first|apply bN_|apply bD_|apply bA_); refine blk_put (cs := #[.int .u64 t244, .int .u64 x199001_1, .int .u64 x199002_1, .int .u64 x199003_1]) ?_ 1 _ rfl; (with_reducible repeat first|apply bN_|apply bD_|apply bA_); refine blk_put (cs := #[.int .u64 x199000_1, .int .u64 x199001_1, .int .u64 x199002_1, .int .u64 x199003_1]) ?_ 0 _ rfl; (with_reducible repeat first|apply bN_|apply bD_|apply bA_); exact BK198.out⟩, ⟨by repeat (first | (with_reducible first | exact HB.out | apply b1_ | apply b2_ | apply b3_ | refine bS_ ?_ GE193.out | refine bS_ ?_ GE198.out) | exact HB.out)⟩⟩
          ·rw [if_neg c88] at H
           have c88b0 : (((rd_T40 l1 x8_1).f0) == 4) = false := beq_eq_false_iff_ne.mpr c88
           have c88b1 : (((rd_T40 l1 x8_1).f0) != 4) = true := bne_iff_ne.mpr c88
           by_cases c102 : (!(x194000_1 == x199000_1) || (!(x194001_1 == x199001_1) || (!(x194002_1 == x199002_1) || (!(x194003_1 == x199003_1))))) = true
           ·rw [if_pos c102] at H
            exact absurd H (by simp)
           ·rw [if_neg c102] at H
            have c102b0 : (!(x194000_1 == x199000_1) || (!(x194001_1 == x199001_1) || (!(x194002_1 == x199002_1) || (!(x194003_1 == x199003_1))))) = false := by simpa using c102
            clear c102
            have H' := Aside0.mk H
            clear H; have hnb103 := NB193_198.out; have hnc103 := NB198_193.out; obtain ⟨hcz104_0, hcz104_1, hcz104_2, hcz104_3, hcz104_4, hcz104_5, hcz104_6, hcz104_7, hcz104_8⟩ := cells9_ BK193.out; obtain ⟨hfz104_0, hfz104_1, hfz104_2, hfz104_3, hfz104_4, hfz104_5, hfz104_6, hfz104_7, hfz104_8⟩ := froz9_ BK193.out
            try go_wp2
            have n0_ := Aside0.mk (blk_drew BK193.out); have n1_ := Aside0.mk (blk_drew BK198.out); have n2_ := Aside0.mk (below_drew1 HB.out); clear BK193; clear BK198; clear HB; have BK193 := n0_; have BK198 := n1_; have HB := n2_; clear n0_ n1_ n2_
            have p199 : 0 ≤ (x8_1 : Int) := of_decide_eq_true (by first | (with_reducible assumption) | assumption)
            have q199 : x8_1 < (l1.length : Int) := of_decide_eq_true (by first | (with_reducible assumption) | assumption)
            obtain ⟨ad199, e199, hx199_0, hx199_1, hx199_2, hx199_3, hx199_4, hx199_5, hx199_6, hx199_7, hx199_8, hx199_9, hx199_10, hx199_11, hx199_12⟩ := at_T40 HR1.out x8_1 p199 q199
            have hw199_12 := hx199_12
            have hw199_11 := hx199_11
            have hw199_10 := hx199_10
            have hw199_9 := hx199_9
            have hw199_8 := hx199_8
            have hw199_7 := hx199_7
            have hw199_6 := hx199_6
            have hw199_5 := hx199_5
            have hw199_4 := hx199_4
            have hw199_3 := hx199_3
            have hw199_2 := hx199_2
            have hw199_1 := hx199_1
            have hw199_0 := hx199_0
            cases e199
            replace hx199_0 := (HB.out.cell (World.block_lt_of_cell? w _ hx199_0)).trans hx199_0
            replace hx199_1 := (HB.out.cell (World.block_lt_of_cell? w _ hx199_1)).trans hx199_1
            replace hx199_2 := (HB.out.cell (World.block_lt_of_cell? w _ hx199_2)).trans hx199_2
            replace hx199_3 := (HB.out.cell (World.block_lt_of_cell? w _ hx199_3)).trans hx199_3
            replace hx199_4 := (HB.out.cell (World.block_lt_of_cell? w _ hx199_4)).trans hx199_4
            replace hx199_5 := (HB.out.cell (World.block_lt_of_cell? w _ hx199_5)).trans hx199_5
            replace hx199_6 := (HB.out.cell (World.block_lt_of_cell? w _ hx199_6)).trans hx199_6
            replace hx199_7 := (HB.out.cell (World.block_lt_of_cell? w _ hx199_7)).trans hx199_7
            replace hx199_8 := (HB.out.cell (World.block_lt_of_cell? w _ hx199_8)).trans hx199_8
            replace hx199_9 := (HB.out.cell (World.block_lt_of_cell? w _ hx199_9)).trans hx199_9
            replace hx199_10 := (HB.out.cell (World.block_lt_of_cell? w _ hx199_10)).trans hx199_10
            replace hx199_11 := (HB.out.cell (World.block_lt_of_cell? w _ hx199_11)).trans hx199_11
            replace hx199_12 := (HB.out.cell (World.block_lt_of_cell? w _ hx199_12)).trans hx199_12
            replace p199 := eq_true p199
            replace q199 := eq_true q199
            refine start_ (n := 10) (S := fun w' => w'.cell? ⟨gb193, 0, none⟩ = some (.int .u64 x194000_1) ∧ w'.cell? ⟨gb193, 1, none⟩ = some (.int .u64 x194001_1) ∧ w'.cell? ⟨gb193, 2, none⟩ = some (.int .u64 x194002_1) ∧ w'.cell? ⟨gb193, 3, none⟩ = some (.int .u64 x194003_1) ∧ w'.cell? ⟨gb193, 4, none⟩ = some (.int .u64 x194004_1) ∧ w'.cell? ⟨gb193, 5, none⟩ = some (.int .u64 x194005_1) ∧ w'.cell? ⟨gb193, 6, none⟩ = some (.int .u64 x194006_1) ∧ w'.cell? ⟨gb193, 7, none⟩ = some (.int .u64 x194007_1) ∧ w'.cell? ⟨gb193, 8, none⟩ = some (.bool x194008_1) ∧ w'.cell? (ad199.add ((x8_1).toNat * 13)) = some (.int .i64 ((rd_T40 l1 x8_1).f0)) ∧ w'.cell? ⟨(ad199.add ((x8_1).toNat * 13)).block, (ad199.add ((x8_1).toNat * 13)).off + 1, none⟩ = some (.int .u64 ((rd_T40 l1 x8_1).f1.f0)) ∧ w'.cell? ⟨(ad199.add ((x8_1).toNat * 13)).block, (ad199.add ((x8_1).toNat * 13)).off + 2, none⟩ = some (.int .u64 ((rd_T40 l1 x8_1).f1.f1)) ∧ w'.cell? ⟨(ad199.add ((x8_1).toNat * 13)).block, (ad199.add ((x8_1).toNat * 13)).off + 3, none⟩ = some (.int .u64 ((rd_T40 l1 x8_1).f1.f2)) ∧ w'.cell? ⟨(ad199.add ((x8_1).toNat * 13)).block, (ad199.add ((x8_1).toNat * 13)).off + 4, none⟩ = some (.int .u64 ((rd_T40 l1 x8_1).f1.f3)) ∧ w'.cell? ⟨(ad199.add ((x8_1).toNat * 13)).block, (ad199.add ((x8_1).toNat * 13)).off + 5, none⟩ = some (.int .u64 ((rd_T40 l1 x8_1).f1.f4)) ∧ w'.cell? ⟨(ad199.add ((x8_1).toNat * 13)).block, (ad199.add ((x8_1).toNat * 13)).off + 6, none⟩ = some (.int .u64 ((rd_T40 l1 x8_1).f1.f5)) ∧ w'.cell? ⟨(ad199.add ((x8_1).toNat * 13)).block, (ad199.add ((x8_1).toNat * 13)).off + 7, none⟩ = some (.int .u64 ((rd_T40 l1 x8_1).f1.f6)) ∧ w'.cell? ⟨(ad199.add ((x8_1).toNat * 13)).block, (ad199.add ((x8_1).toNat * 13)).off + 8, none⟩ = some (.int .u64 ((rd_T40 l1 x8_1).f1.f7)) ∧ w'.cell? ⟨(ad199.add ((x8_1).toNat * 13)).block, (ad199.add ((x8_1).toNat * 13)).off + 9, none⟩ = some (.bool ((rd_T40 l1 x8_1).f1.f8)) ∧ w'.cell? ⟨(ad199.add ((x8_1).toNat * 13)).block, (ad199.add ((x8_1).toNat * 13)).off + 10, none⟩ = some (.bool ((rd_T40 l1 x8_1).f1.f9)) ∧ w'.cell? ⟨(ad199.add ((x8_1).toNat * 13)).block, (ad199.add ((x8_1).toNat * 13)).off + 11, none⟩ = some (.int .u64 ((rd_T40 l1 x8_1).f2)) ∧ w'.cell? ⟨(ad199.add ((x8_1).toNat * 13)).block, (ad199.add ((x8_1).toNat * 13)).off + 12, none⟩ = some (.int .u64 ((rd_T40 l1 x8_1).f3))) (ds := []) #[false, false, false, false, false, false, false, false, false, false] (by kernel_rfl) rfl rfl ⟨(blk_cell BK193.out 0).trans rfl, (blk_cell BK193.out 1).trans rfl, (blk_cell BK193.out 2).trans rfl, (blk_cell BK193.out 3).trans rfl, (blk_cell BK193.out 4).trans rfl, (blk_cell BK193.out 5).trans rfl, (blk_cell BK193.out 6).trans rfl, (blk_cell BK193.out 7).trans rfl, (blk_cell BK193.out 8).trans rfl, ((HB.out.cell (World.block_lt_of_cell? w _ hw199_0)).trans hw199_0), ((HB.out.cell (World.block_lt_of_cell? w _ hw199_1)).trans hw199_1), ((HB.out.cell (World.block_lt_of_cell? w _ hw199_2)).trans hw199_2), ((HB.out.cell (World.block_lt_of_cell? w _ hw199_3)).trans hw199_3), ((HB.out.cell (World.block_lt_of_cell? w _ hw199_4)).trans hw199_4), ((HB.out.cell (World.block_lt_of_cell? w _ hw199_5)).trans hw199_5), ((HB.out.cell (World.block_lt_of_cell? w _ hw199_6)).trans hw199_6), ((HB.out.cell (World.block_lt_of_cell? w _ hw199_7)).trans hw199_7), ((HB.out.cell (World.block_lt_of_cell? w _ hw199_8)).trans hw199_8), ((HB.out.cell (World.block_lt_of_cell? w _ hw199_9)).trans hw199_9), ((HB.out.cell (World.block_lt_of_cell? w _ hw199_10)).trans hw199_10), ((HB.out.cell (World.block_lt_of_cell? w _ hw199_11)).trans hw199_11), ((HB.out.cell (World.block_lt_of_cell? w _ hw199_12)).trans hw199_12)⟩ (fun hHeld => ?_); refine with_tabW wigwaglaw14_PragueCalm.tab8 wigwaglaw14_PragueCalm.bits8 (fun HT_ HW_ => ?_)
            generalize wc.drew = w105 at BK193 BK198 HB hx199_0 hx199_1 hx199_10 hx199_11 hx199_12 hx199_2 hx199_3 hx199_4 hx199_5 hx199_6 hx199_7 hx199_8 hx199_9 hHeld ⊢
            refine pure_ (i := 0) (N := some 27) (v := ?_) (a' := ?_) #[true, false, false, false, false, false, false, false, false, false] rfl rfl (any_of HT_.out (by kernel_rfl)) (fun _ _ _ h => h) (Or.inl ⟨by rfl, ?_⟩) ?_ ?_
            rotate_left; focus (intro w'; go_simp; with_reducible rfl)
            rotate_left; focus (simp only [Act.put, sA_, s0_, s1_, i64_w, i32_w]; rfl)
            refine pure_ (i := 1) (N := some 28) (v := ?_) (a' := ?_) #[true, true, false, false, false, false, false, false, false, false] rfl rfl (any_of HT_.out (by kernel_rfl)) (fun _ _ _ h => h) (Or.inl ⟨by rfl, ?_⟩) ?_ ?_
            rotate_left; focus (intro w'; go_simp; with_reducible rfl)
            rotate_left; focus (simp only [Act.put, sA_, s0_, s1_, i64_w, i32_w]; rfl)
            refine pure_ (i := 2) (N := some 29) (v := ?_) (a' := ?_) #[true, true, true, false, false, false, false, false, false, false] rfl rfl (any_of HT_.out (by kernel_rfl)) (fun _ _ _ h => h) (Or.inl ⟨by rfl, ?_⟩) ?_ ?_
            rotate_left; focus (intro w'; go_simp; with_reducible rfl)
            rotate_left; focus (simp only [Act.put, sA_, s0_, s1_, i64_w, i32_w]; rfl)
            refine pure_ (i := 3) (N := some 30) (v := ?_) (a' := ?_) #[true, true, true, true, false, false, false, false, false, false] rfl rfl (any_of HT_.out (by kernel_rfl)) (fun _ _ _ h => h) (Or.inl ⟨by rfl, ?_⟩) ?_ ?_
            rotate_left; focus (intro w'; go_simp; with_reducible rfl)
            rotate_left; focus (simp only [Act.put, sA_, s0_, s1_, i64_w, i32_w]; rfl)
            refine pure_ (i := 4) (N := some 31) (v := ?_) (a' := ?_) #[true, true, true, true, true, false, false, false, false, false] rfl rfl (any_of HT_.out (by kernel_rfl)) (fun _ _ _ h => h) (Or.inl ⟨by rfl, ?_⟩) ?_ ?_
            rotate_left; focus (intro w'; go_simp; with_reducible rfl)
            rotate_left; focus (simp only [Act.put, sA_, s0_, s1_, i64_w, i32_w]; rfl)
            refine pure_ (i := 6) (N := some 33) (v := ?_) (a' := ?_) #[true, true, true, true, true, false, true, false, false, false] rfl rfl (any_of HT_.out (by kernel_rfl)) (fun _ _ _ h => h) (Or.inl ⟨by rfl, ?_⟩) ?_ ?_
            rotate_left; focus (intro w'; go_simp; with_reducible rfl)
            rotate_left; focus (simp only [Act.put, sA_, s0_, s1_, i64_w, i32_w]; rfl)
            refine take_ (i := 5) (N := some 32) (v := ?_) (a' := ?_) #[true, true, true, true, true, true, true, false, false, false] rfl rfl (take_ofW HT_.out HW_.out (by kernel_rfl)) (fun _ _ _ h => h) (Or.inl ⟨by rfl, ?_⟩) hHeld ?_ ?_
            rotate_left; focus (rintro w' ⟨s0, s1, s2, s3, s4, s5, s6, s7, s8, s9, s10, s11, s12, s13, s14, s15, s16, s17, s18, s19, s20, s21⟩; go_simp; with_reducible rfl)
            rotate_left; focus (simp only [Act.put, sA_, s0_, s1_, i64_w, i32_w]; rfl)
            refine take_ (i := 7) (N := some 34) (v := ?_) (a' := ?_) #[true, true, true, true, true, true, true, true, false, false] rfl rfl (take_ofW HT_.out HW_.out (by kernel_rfl)) (fun _ _ _ h => h) (Or.inl ⟨by rfl, ?_⟩) hHeld ?_ ?_
            rotate_left; focus (rintro w' ⟨s0, s1, s2, s3, s4, s5, s6, s7, s8, s9, s10, s11, s12, s13, s14, s15, s16, s17, s18, s19, s20, s21⟩; go_simp; with_reducible rfl)
            rotate_left; focus (simp only [Act.put, sA_, s0_, s1_, i64_w, i32_w]; rfl)
            refine pure_ (i := 8) (N := some 35) (v := ?_) (a' := ?_) #[true, true, true, true, true, true, true, true, true, false] rfl rfl (any_of HT_.out (by kernel_rfl)) (fun _ _ _ h => h) (Or.inl ⟨by rfl, ?_⟩) ?_ ?_
            rotate_left; focus (intro w'; go_simp; with_reducible rfl)
            rotate_left; focus (simp only [Act.put, sA_, s0_, s1_, i64_w, i32_w]; rfl)
            refine pure_ (i := 9) (N := some 10) (v := ?_) (a' := ?_) #[true, true, true, true, true, true, true, true, true, true] rfl rfl (any_of HT_.out (by kernel_rfl)) (fun _ _ _ h => h) (Or.inl ⟨by rfl, ?_⟩) ?_ ?_
            rotate_left; focus (intro w'; go_simp; with_reducible rfl)
            rotate_left; focus (simp only [Act.put, sA_, s0_, s1_, i64_w, i32_w]; rfl)
            refine done_ (done_of HT_.out (by kernel_rfl)) ?_
            have p200 : 0 ≤ (x8_1 : Int) := of_decide_eq_true (by first | (with_reducible assumption) | assumption)
            have q200 : x8_1 < (l1.length : Int) := of_decide_eq_true (by first | (with_reducible assumption) | assumption)
            obtain ⟨ad200, e200, hx200_0, hx200_1, hx200_2, hx200_3, hx200_4, hx200_5, hx200_6, hx200_7, hx200_8, hx200_9, hx200_10, hx200_11, hx200_12⟩ := at_T40 HR1.out x8_1 p200 q200
            obtain rfl : ad199 = ad200 := (by injection e200)
            replace hx200_0 := (HB.out.cell (World.block_lt_of_cell? w _ hx200_0)).trans hx200_0
            replace hx200_1 := (HB.out.cell (World.block_lt_of_cell? w _ hx200_1)).trans hx200_1
            replace hx200_2 := (HB.out.cell (World.block_lt_of_cell? w _ hx200_2)).trans hx200_2
            replace hx200_3 := (HB.out.cell (World.block_lt_of_cell? w _ hx200_3)).trans hx200_3
            replace hx200_4 := (HB.out.cell (World.block_lt_of_cell? w _ hx200_4)).trans hx200_4
            replace hx200_5 := (HB.out.cell (World.block_lt_of_cell? w _ hx200_5)).trans hx200_5
            replace hx200_6 := (HB.out.cell (World.block_lt_of_cell? w _ hx200_6)).trans hx200_6
            replace hx200_7 := (HB.out.cell (World.block_lt_of_cell? w _ hx200_7)).trans hx200_7
            replace hx200_8 := (HB.out.cell (World.block_lt_of_cell? w _ hx200_8)).trans hx200_8
            replace hx200_9 := (HB.out.cell (World.block_lt_of_cell? w _ hx200_9)).trans hx200_9
            replace hx200_10 := (HB.out.cell (World.block_lt_of_cell? w _ hx200_10)).trans hx200_10
            replace hx200_11 := (HB.out.cell (World.block_lt_of_cell? w _ hx200_11)).trans hx200_11
            replace hx200_12 := (HB.out.cell (World.block_lt_of_cell? w _ hx200_12)).trans hx200_12
            replace p200 := eq_true p200
            replace q200 := eq_true q200
            obtain ⟨hcz106_0, hcz106_1, hcz106_2, hcz106_3, hcz106_4, hcz106_5, hcz106_6, hcz106_7, hcz106_8⟩ := cells9_ BK193.out; obtain ⟨hfz106_0, hfz106_1, hfz106_2, hfz106_3, hfz106_4, hfz106_5, hfz106_6, hfz106_7, hfz106_8⟩ := froz9_ BK193.out; obtain ⟨hcz107_0, hcz107_1, hcz107_2, hcz107_3⟩ := cells4_ BK198.out; obtain ⟨hfz107_0, hfz107_1, hfz107_2, hfz107_3⟩ := froz4_ BK198.out
            try go_wp2
            go_roundg kj13
            case measure => have := HK1.out; have := HJ13.out; omega
            case rel => exact ⟨(wrap64 (x8_1 + 1)), (x194000_1), (x194001_1), (x194002_1), (x194003_1), (x194004_1), (x194005_1), (x194006_1), (x194007_1), (x194008_1), (x199000_1), (x199001_1), (x199002_1), (x199003_1), (by first | rfl | (simp; done) | (simp [*]; done)), H', ⟨by have := HK1.out; have := HJ13.out; omega⟩, ⟨by (with_reducible repeat first|apply bN_|apply bD_|apply bA_); exact BK193.out⟩, ⟨by (with_reducible repeat first|apply bN_|apply bD_|apply bA_); exact BK198.out⟩, ⟨by repeat (first | (with_reducible first | exact HB.out | apply b1_ | apply b2_ | apply b3_ | refine bS_ ?_ GE193.out | refine bS_ ?_ GE198.out) | exact HB.out)⟩⟩
       ·rw [if_neg c18] at H
        exact absurd H (by simp)
      ·rw [if_neg c17] at H
       exact absurd H (by simp)
     ·replace c16 := Bool.eq_false_iff.mpr c16
      subst c16
      have H1 : (some t183) = some r := by rw [if_neg (show ¬ (false = true) by decide)] at H; exact H
      clear H
      have H := H1
      clear H1
      obtain rfl := Option.some.inj H
      go_wp2
      go_ret
      exact ⟨by first | rfl | (simp [errW_none, errW_some] <;> rfl) | (simp [*, errW_none, errW_some] <;> rfl), by repeat (first | (with_reducible first | exact HB.out | apply b1_ | apply b2_ | apply b3_ | refine bS_ ?_ GE193.out | refine bS_ ?_ GE198.out) | exact HB.out)⟩

end Go.Proofs.Ytaaieijkmhmecaa.PPrC
