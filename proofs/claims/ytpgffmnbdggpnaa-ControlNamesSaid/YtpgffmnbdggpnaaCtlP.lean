/- What the model of a path answers, in plain words. -/
import Derived.Deep.DeepMust
import Derived.Test.YtpgffmnbdggpnaaCtlN
import Derived.Test.YtpgffmnbdggpnaaPCtlx8
import Derived.Test.YtpgffmnbdggpnaaPCtlx9
import Derived.Test.YtpgffmnbdggpnaaPCtlx10
namespace Go.Proofs.Ytpgffmnbdggpnaa.PCtl
open Go.RowKit Go.Proofs.YtpgffmnbdggpnaaW.PrintWords Go.Proofs.YtpgffmnbdggpnaaW.PrintLast Go.Proofs.YtpgffmnbdggpnaaW.PrintMore
set_option linter.unusedVariables false
set_option linter.unusedSimpArgs false
theorem wf64 {a : Int} (h : (Lit.int .u64 a).wf = true) : W64 a := by
  have e1 : IntKind.u64.min = 0 := rfl
  have e2 : IntKind.u64.max = 18446744073709551615 := rfl
  simp [Lit.wf, e1, e2] at h
  omega
theorem wf32 {a : Int} (h : (Lit.int .u32 a).wf = true) : 0 ≤ a ∧ a ≤ 4294967295 := by
  have e1 : IntKind.u32.min = 0 := rfl
  have e2 : IntKind.u32.max = 4294967295 := rfl
  simp [Lit.wf, e1, e2] at h
  omega
theorem wf16 {a : Int} (h : (Lit.int .u16 a).wf = true) : 0 ≤ a ∧ a ≤ 65535 := by
  have e1 : IntKind.u16.min = 0 := rfl
  have e2 : IntKind.u16.max = 65535 := rfl
  simp [Lit.wf, e1, e2] at h
  omega
theorem wf8 {a : Int} (h : (Lit.int .u8 a).wf = true) : 0 ≤ a ∧ a ≤ 255 := by
  have e1 : IntKind.u8.min = 0 := rfl
  have e2 : IntKind.u8.max = 255 := rfl
  simp [Lit.wf, e1, e2] at h
  omega
theorem wrap64_is {x : Int} (h0 : 0 ≤ x) (h1 : x < 9223372036854775808) : wrap64 x = x := by unfold wrap64; omega
theorem add_eq {a b : Int} (ha : W64 a) (hb : W64 b) : fix_Add.f a b = some (uAdd a b) := by unfold fix_Add.f; rw [if_pos ⟨ha, hb⟩]
theorem muldiv_eq {a b c : Int} (ha : W64 a) (hb : W64 b) (hc : W64 c) : fix_MulDivT.f a b c = some (uMulDiv a b c) := by unfold fix_MulDivT.f; rw [if_pos ⟨ha, hb, hc⟩]
theorem held_eq {a : Int} : reno_Held.f a = some (uHeld a) := rfl
def uGain (a b : Int) : Int := uMulDiv a b 256
theorem gain_eq {a b : Int} (ha : W64 a) (hb : W64 b) : fix_Gain.f a b = some (uGain a b) := by unfold fix_Gain.f; rw [muldiv_eq ha hb (by omega)]; rfl
theorem uGain_w {a b : Int} (ha : W64 a) (hb : W64 b) : W64 (uGain a b) := uMulDiv_w ha hb (by omega)

/-- The numbers of a list of samples are of 64 bits. -/
def SWf (l : List S90) : Prop := ∀ x ∈ l, W64 x.f0 ∧ W64 x.f1
def uBest : List S90 → Int
  | [] => 0
  | x :: _ => x.f1
theorem best_eq (l : List S90) : filt_Best.f l = some (uBest l) := by
  cases l with
  | nil => rfl
  | cons x t =>
    unfold filt_Best.f
    have hl : ((x :: t).length : Int) = t.length + 1 := by simp
    rw [if_neg (by omega), if_pos (by omega)]
    rfl
theorem best_w {l : List S90} (h : SWf l) : W64 (uBest l) := by
  cases l with
  | nil => exact ⟨by decide, by decide⟩
  | cons x t => exact (h x (List.mem_cons_self ..)).2
def uProd (l : List S90) (mn parts : Int) : Int := if mn = 18446744073709551615 then 0 else uGain (uMulDiv (uBest l) mn 1000) parts
theorem prod_eq {a0 a2 a3 a4 a5 a6 a7 a8 a9 parts : Int} {l : List S90} (hl : SWf l) (hm : W64 a2) (hp : W64 parts) : probe_Product.f a0 l a2 a3 a4 a5 a6 a7 a8 a9 parts = some (uProd l a2 parts) := by
  unfold probe_Product.f uProd
  by_cases h : a2 = 18446744073709551615
  · rw [if_pos h, if_pos h]
  · rw [if_neg h, if_neg h, best_eq]
    simp only [Option.bind_some]
    rw [muldiv_eq (best_w hl) hm (by omega)]
    simp only [Option.bind_some]
    rw [gain_eq (uMulDiv_w (best_w hl) hm (by omega)) hp]
    rfl
theorem uProd_w {l : List S90} {mn parts : Int} (hl : SWf l) (hm : W64 mn) (hp : W64 parts) : W64 (uProd l mn parts) := by
  unfold uProd
  split
  · omega
  · exact uGain_w (uMulDiv_w (best_w hl) hm (by omega)) hp

/-- Chapter 13's window and rate. -/
def uWin (p0 : Int) (l : List S90) (mn_ high : Int) : Int :=
  if p0 = 3 then 4800 else if uProd l mn_ 256 = 0 then 12000
  else if high ≥ 4800 then max (min (uHeld (uProd l mn_ (if p0 = 0 then 739 else 512))) high) 4800 else min (uHeld (uProd l mn_ (if p0 = 0 then 739 else 512))) high
theorem uWin_w {p0 : Int} {l : List S90} {m h : Int} (hh : W64 h) : W64 (uWin p0 l m h) := by
  unfold uWin
  generalize uProd l m (if p0 = 0 then 739 else 512) = x
  have := uHeld_w x
  split
  · omega
  · split
    · omega
    · split <;> omega
theorem win_eq {p0 p2 p3 p4 p5 p6 p7 p8 p9 : Int} {l : List S90} (hl : SWf l) (h2 : W64 p2) : probe_Window.f p0 l p2 p3 p4 p5 p6 p7 p8 p9 = some (uWin p0 l p2 p9) := by
  have hmn : ∀ x y : Int, mn x y = min x y := by intro x y; unfold mn; split <;> omega
  have hmx : ∀ x y : Int, mx x y = max x y := by intro x y; unfold mx; split <;> omega
  unfold probe_Window.f uWin
  rw [prod_eq hl h2 (by omega), prod_eq hl h2 (by omega), prod_eq hl h2 (by omega)]
  simp only [Option.bind_some, held_eq, hmn, hmx]
  by_cases h3 : p0 = 3
  · rw [if_pos h3, if_pos h3]
  · rw [if_neg h3, if_neg h3]
    by_cases hz : uProd l p2 256 = 0
    · rw [if_pos hz, if_pos hz]
    · rw [if_neg hz, if_neg hz]
      by_cases h0 : p0 = 0
      · simp only [if_pos h0]
        split <;> rfl
      · simp only [if_neg h0]
        split <;> rfl
def uRate (p0 : Int) (l : List S90) (phase : Int) : Int :=
  if uBest l = 0 then uMulDiv 12000 1000 333 else if p0 = 0 then uGain (uBest l) 739 else if p0 = 1 then uGain (uBest l) 89
  else if p0 = 2 then (if phase % 8 = 0 then uGain (uBest l) 320 else if phase % 8 = 1 then uGain (uBest l) 192 else uGain (uBest l) 256) else uGain (uBest l) 256
theorem rate_eq {p0 p2 p3 p4 p5 p6 p7 p8 p9 : Int} {l : List S90} (hl : SWf l) (h7 : W64 p7) : probe_Rate.f p0 l p2 p3 p4 p5 p6 p7 p8 p9 = some (uRate p0 l p7) := by
  unfold probe_Rate.f uRate
  have hb := best_w hl
  have hg : ∀ x, W64 x → fix_Gain.f (uBest l) x = some (uGain (uBest l) x) := fun x hx => gain_eq hb hx
  rw [best_eq]
  simp only [Option.bind_some]
  rw [muldiv_eq (by omega) (by omega) (by omega), hg _ (by omega), hg _ (by omega), hg _ (by omega), hg _ (by omega), hg _ (by omega), if_pos h7.1]
  split
  · rfl
  · split
    · rfl
    · split
      · rfl
      · split
        · split
          · rfl
          · split <;> rfl
        · rfl
theorem uRate_w {p0 : Int} {l : List S90} {p7 : Int} (hl : SWf l) : W64 (uRate p0 l p7) := by
  unfold uRate
  have hb := best_w hl
  have hg : ∀ x, W64 x → W64 (uGain (uBest l) x) := fun x hx => uGain_w hb hx
  have hm : W64 (uMulDiv 12000 1000 333) := uMulDiv_w (by omega) (by omega) (by omega)
  repeat (first | exact hm | exact hg _ (by omega) | split)
theorem SWf_nil : SWf [] := fun x hx => by cases hx
end Go.Proofs.Ytpgffmnbdggpnaa.PCtl
