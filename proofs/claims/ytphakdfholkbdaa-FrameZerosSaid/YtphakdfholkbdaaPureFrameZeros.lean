/- So many bytes 0 are so many frames that tell nothing; with a byte behind them that is no frame's they are none: for every number, with no condition. -/
import Derived.Test.YtphakdfholkbdaaFrQ1
import Derived.Test.YtphakdfholkbdaaPFrax39
namespace Go.Proofs.Ytphakdfholkbdaa.Pure
set_option linter.unusedVariables false
set_option linter.unusedSimpArgs false
open Go.RowKit Go.Proofs.Ytphakdfholkbdaa Go.Proofs.Ytphakdfholkbdaa.PFra Go.Proofs.YtphakdfholkbdaaW.PrintWords Go.Proofs.YtphakdfholkbdaaW.PrintLast
theorem uNum_zero (t : List Int) : uNum (0 :: t) = some (0, t) := (uPut_num (x := 0) (by decide) (by decide)).1 t
theorem parse_zero (t : List Int) : uParse (0 :: t) = (0, 0, 0, 0, 0, 0, 0, false, [], [], 1, 0) := by
  have e : rFr (0 :: t) = some (0, fun _ => 0, false, [], [], t) := by
    unfold rFr
    rw [uNum_zero]
    simp only [Option.bind_some]
    rw [if_pos (by decide), if_neg (by decide)]
    unfold rKind
    rw [show fOffs 0 = some [] from rfl]
    simp only
    rw [if_neg (by decide)]
    simp only [rNums, Option.bind_some]
    unfold rEnd
    rw [if_neg (by decide)]
    unfold rChk
    rw [if_pos (by decide)]
  unfold uParse
  rw [e]
  simp only [List.length_cons, Prod.mk.injEq, true_and]
  exact ⟨by omega, trivial⟩
def zF : S27 := ⟨0, 0, 0, 0, 0, 0, 0, false, [], []⟩
theorem all_zeros : ∀ (n k : Nat) (tl : List Int) (acc : List S27), bytesOk tl = true → n + tl.length < 1000000 → acc.length + n < 1000000 → frame_All.l0 (n + k) (List.replicate n 0 ++ tl) acc = frame_All.l0 k tl (acc ++ List.replicate n zF)
  | 0, k, tl, acc, _, _, _ => by simp
  | n + 1, k, tl, acc, hb, hl, ha => by
    rw [show n + 1 + k = (n + k) + 1 by omega, frame_All.l0, List.replicate_succ, List.cons_append]
    have hbb : bytesOk (0 :: (List.replicate n 0 ++ tl)) = true := by
      have : bytesOk ([0] ++ (List.replicate n 0 ++ tl)) = true := bytes_app (by decide) (bytes_app (List.all_eq_true.2 fun x hx => by rw [List.eq_of_mem_replicate hx]; rfl) hb)
      exact this
    have hP : frame_Parse.f (0 :: (List.replicate n 0 ++ tl)) = some (0, 0, 0, 0, 0, 0, 0, false, [], [], 1, 0) := by
      unfold frame_Parse.f
      rw [if_pos ⟨hbb, by simp; omega⟩, parse_zero]
    rw [if_pos (by simp; omega), hP, Option.bind_some]
    simp only
    rw [if_pos trivial, if_pos (by omega), if_pos (by decide), if_pos (by simp; omega)]
    have e : (0 :: (List.replicate n 0 ++ tl)).drop (1 : Int).toNat = List.replicate n 0 ++ tl := rfl
    rw [e, all_zeros n k tl _ hb (by omega) (by simp; omega)]
    congr 1
    rw [List.append_assoc]
    rfl
theorem parse_seven : frame_Parse.f [7] = some (0, 0, 0, 0, 0, 0, 0, false, [], [], 0, 50) := by
  have e : rFr [7] = none := by
    unfold rFr
    have h : uNum [7] = some (7, []) := (uPut_num (x := 7) (by decide) (by decide)).1 []
    rw [h]
    rfl
  unfold frame_Parse.f uParse
  rw [if_pos (by decide), e]
theorem FrameZeros : wigwaglaw05_FrameZeros.Pure := by
  intro a0 hw
  have hw : 0 ≤ a0 ∧ a0 ≤ 65535 := by
    have e1 : IntKind.u16.min = 0 := rfl
    have e2 : IntKind.u16.max = 65535 := rfl
    simp [Lit.wf, e1, e2] at hw
    omega
  have hwr : wrap64 a0 = a0 := by unfold wrap64; omega
  have ht : Int.tmod a0 1500 = a0 % 1500 := Int.tmod_eq_emod_of_nonneg hw.1
  obtain ⟨n, hn⟩ : ∃ n : Nat, wrap64 (Int.tmod (wrap64 a0) 1500 + 1) = (n : Int) := ⟨(a0 % 1500 + 1).toNat, by rw [hwr, ht]; unfold wrap64; omega⟩
  have hn1 : 1 ≤ n ∧ n ≤ 1500 := by rw [hwr, ht] at hn; unfold wrap64 at hn; omega
  obtain ⟨K, hK⟩ : ∃ K, K = 100 := ⟨_, rfl⟩
  refine ⟨n + (K + 1), ?_⟩
  unfold wigwaglaw05_FrameZeros.f
  rw [awake_ok (by omega), Option.bind_some, hn]
  rw [if_pos (by omega), if_pos (by omega)]
  simp only [Option.bind_some, Int.toNat_natCast]
  have h1 : frame_All.f (n + (K + 1)) (List.replicate n 0) = some (List.replicate n zF, 0) := by
    unfold frame_All.f
    rw [if_neg (by simp; omega)]
    have := all_zeros n (K + 1) [] [] rfl (by simp; omega) (by simp; omega)
    rw [List.append_nil] at this
    rw [this, frame_All.l0, if_neg (by simp)]
    rfl
  have h2 : frame_All.f (n + (K + 1)) (List.replicate n 0 ++ [7]) = some ([], 50) := by
    unfold frame_All.f
    rw [if_neg (by simp; omega)]
    rw [all_zeros n (K + 1) [7] [] (by decide) (by simp; omega) (by simp; omega), frame_All.l0, if_pos (by simp), parse_seven, Option.bind_some]
    rfl
  rw [h1, h2]
  simp only [Option.bind_some, List.length_replicate]
  rw [if_pos (by omega)]
  simp
end Go.Proofs.Ytphakdfholkbdaa.Pure
