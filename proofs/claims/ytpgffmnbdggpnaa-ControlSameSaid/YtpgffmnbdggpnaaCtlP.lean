/- What the model of a path answers, in plain words. -/
import Derived.Deep.DeepMust
import Derived.Test.YtpgffmnbdggpnaaCtlN
import Derived.Test.YtpgffmnbdggpnaaPCvx11
import Derived.Test.YtpgffmnbdggpnaaPCvx23
import Derived.Test.YtpgffmnbdggpnaaPCvx3
namespace Go.Proofs.Ytpgffmnbdggpnaa.PCv
open Go.RowKit Go.Proofs.YtpgffmnbdggpnaaW.PrintWords Go.Proofs.YtpgffmnbdggpnaaW.PrintLast Go.Proofs.YtpgffmnbdggpnaaW.PrintMore
set_option linter.unusedVariables false
set_option linter.unusedSimpArgs false
theorem wf64 {a : Int} (h : (Lit.int .u64 a).wf = true) : W64 a := by
  have e1 : IntKind.u64.min = 0 := rfl
  have e2 : IntKind.u64.max = 18446744073709551615 := rfl
  simp [Lit.wf, e1, e2] at h
  omega
theorem wf32 {a : Int} (h : (Lit.int .u32 a).wf = true) : 0 ≤ a ∧ a ≤ 4294967295 := by
  have e1 : IntKind.u32.min = 0 := rfl
  have e2 : IntKind.u32.max = 4294967295 := rfl
  simp [Lit.wf, e1, e2] at h
  omega
theorem wf16 {a : Int} (h : (Lit.int .u16 a).wf = true) : 0 ≤ a ∧ a ≤ 65535 := by
  have e1 : IntKind.u16.min = 0 := rfl
  have e2 : IntKind.u16.max = 65535 := rfl
  simp [Lit.wf, e1, e2] at h
  omega
theorem wf8 {a : Int} (h : (Lit.int .u8 a).wf = true) : 0 ≤ a ∧ a ≤ 255 := by
  have e1 : IntKind.u8.min = 0 := rfl
  have e2 : IntKind.u8.max = 255 := rfl
  simp [Lit.wf, e1, e2] at h
  omega
theorem wrap64_is {x : Int} (h0 : 0 ≤ x) (h1 : x < 9223372036854775808) : wrap64 x = x := by unfold wrap64; omega
theorem add_eq {a b : Int} (ha : W64 a) (hb : W64 b) : fix_Add.f a b = some (uAdd a b) := by unfold fix_Add.f; rw [if_pos ⟨ha, hb⟩]
theorem muldiv_eq {a b c : Int} (ha : W64 a) (hb : W64 b) (hc : W64 c) : fix_MulDivT.f a b c = some (uMulDiv a b c) := by unfold fix_MulDivT.f; rw [if_pos ⟨ha, hb, hc⟩]
theorem held_eq {a : Int} : reno_Held.f a = some (uHeld a) := rfl
def uGain (a b : Int) : Int := uMulDiv a b 256
theorem gain_eq {a b : Int} (ha : W64 a) (hb : W64 b) : fix_Gain.f a b = some (uGain a b) := by unfold fix_Gain.f; rw [muldiv_eq ha hb (by omega)]; rfl
theorem uGain_w {a b : Int} (ha : W64 a) (hb : W64 b) : W64 (uGain a b) := uMulDiv_w ha hb (by omega)

/-- The numbers of a list of samples are of 64 bits. -/
def SWf (l : List S90) : Prop := ∀ x ∈ l, W64 x.f0 ∧ W64 x.f1
def uBest : List S90 → Int
  | [] => 0
  | x :: _ => x.f1
theorem best_eq (l : List S90) : filt_Best.f l = some (uBest l) := by
  cases l with
  | nil => rfl
  | cons x t =>
    unfold filt_Best.f
    have hl : ((x :: t).length : Int) = t.length + 1 := by simp
    rw [if_neg (by omega), if_pos (by omega)]
    rfl
theorem best_w {l : List S90} (h : SWf l) : W64 (uBest l) := by
  cases l with
  | nil => exact ⟨by decide, by decide⟩
  | cons x t => exact (h x (List.mem_cons_self ..)).2
def uProd (l : List S90) (mn parts : Int) : Int := if mn = 18446744073709551615 then 0 else uGain (uMulDiv (uBest l) mn 1000) parts
theorem prod_eq {a0 a2 a3 a4 a5 a6 a7 a8 a9 parts : Int} {l : List S90} (hl : SWf l) (hm : W64 a2) (hp : W64 parts) : probe_Product.f a0 l a2 a3 a4 a5 a6 a7 a8 a9 parts = some (uProd l a2 parts) := by
  unfold probe_Product.f uProd
  by_cases h : a2 = 18446744073709551615
  · rw [if_pos h, if_pos h]
  · rw [if_neg h, if_neg h, best_eq]
    simp only [Option.bind_some]
    rw [muldiv_eq (best_w hl) hm (by omega)]
    simp only [Option.bind_some]
    rw [gain_eq (uMulDiv_w (best_w hl) hm (by omega)) hp]
    rfl
theorem uProd_w {l : List S90} {mn parts : Int} (hl : SWf l) (hm : W64 mn) (hp : W64 parts) : W64 (uProd l mn parts) := by
  unfold uProd
  split
  · omega
  · exact uGain_w (uMulDiv_w (best_w hl) hm (by omega)) hp

theorem SWf_nil : SWf [] := fun x hx => by cases hx
end Go.Proofs.Ytpgffmnbdggpnaa.PCv
