-- Written by a program of this session (wip/tools/xprint.py) for this claim.
import Derived.Test.YtpgffmnbdggpnaaPCvx0
import Derived.Test.YtpgffmnbdggpnaaPCvx8
import Derived.Test.YtpgffmnbdggpnaaPCvx34
namespace Go.Proofs.Ytpgffmnbdggpnaa.PCv
open Go.RowKit Go.Proofs.YtpgffmnbdggpnaaW.PrintWords Go.Proofs.YtpgffmnbdggpnaaW.PrintLast Go.Proofs.YtpgffmnbdggpnaaW.PrintMore
set_option linter.unusedVariables false
set_option linter.unusedSimpArgs false

/-! ### fix_Cbrt: function 27 -/
theorem fix_Cbrt.mulT (a b : Int) (h1 : W64 a) (h2 : W64 b) (w : World) (n : Nat) : Calls Try.prog 26 #[.int .u64 a, .int .u64 b] (w.drewN n) fun e w' => e = .returned (.int .u64 (uMul a b)) ∧ ∃ m, w' = w.drewN m :=
  (fix_MulT.calls a b (uMul a b) (w.drewN n) (by unfold fix_MulT.f; rw [if_pos ⟨h1, h2⟩])).mono fun e w' ⟨he, ⟨m, hm⟩⟩ => ⟨he, n + m, by rw [hm, World.drewN_drewN]⟩

/-- Does a cube fit? -/
def cbFits (a x : Int) : Bool := decide (uMul (uMul x x) x ≤ a) && decide (x ≤ 2642245)
set_option maxHeartbeats 1000000 in
theorem cb_fits (x a : Int) (hx : W64 x) (b : Nat) (w : World) (hc : w.cell? ⟨b, 0, none⟩ = some (.int .u64 a)) :
    Calls Try.prog 56 #[.int .u64 x, .pointer (some ⟨b, 0, none⟩)] w fun e w' => e = .returned (.bool (cbFits a x)) ∧ Drawn0 w w' := by
  have h1 := uMul_w hx hx
  by_cases h : uMul (uMul x x) x ≤ a
  · have hd : decide (uMul (uMul x x) x ≤ a) = true := decide_eq_true h
    go_enter Try.func56, Try.ntmps56
    go_wp2_with (fail)
    go_quiet (first | ((go_at_call 26; with_reducible exact fix_Cbrt.mulT _ _ hx hx _ _)) | ((go_at_call 26; with_reducible exact fix_Cbrt.mulT _ _ h1 hx _ _)))
    go_wp2
    go_ret
    exact ⟨ret_bool (by unfold cbFits; rw [hd]; simp), ⟨_, rfl⟩⟩
  · have hd : decide (uMul (uMul x x) x ≤ a) = false := decide_eq_false h
    go_enter Try.func56, Try.ntmps56
    go_wp2_with (fail)
    go_quiet (first | ((go_at_call 26; with_reducible exact fix_Cbrt.mulT _ _ hx hx _ _)) | ((go_at_call 26; with_reducible exact fix_Cbrt.mulT _ _ h1 hx _ _)))
    go_wp2
    go_ret
    exact ⟨ret_bool (by unfold cbFits; rw [hd]; simp), ⟨_, rfl⟩⟩
def CbInv (a : Int) (k : Nat) (out : Int) : Prop := 0 ≤ out ∧ out ≤ 4194303 ∧ (∃ q, 0 ≤ q ∧ out = q * 2 ^ (22 - k)) ∧ cbAux a (22 - k) out = uCbrt a
theorem cb_start (a : Int) : CbInv a 0 0 := ⟨by omega, by omega, ⟨0, by omega, by omega⟩, rfl⟩
theorem cbFits_iff (a x : Int) (ha : W64 a) (h0 : 0 ≤ x) (h1 : x ≤ 4194303) : cbFits a x = true ↔ x * x * x ≤ a ∧ x ≤ 2642245 := by
  unfold cbFits
  rw [Bool.and_eq_true, decide_eq_true_iff, decide_eq_true_iff]
  have e1 := mul_bd (A := 4194303) (B := 4194303) h0 h1 h0 h1
  have e2 : uMul x x = x * x := by unfold uMul; rw [if_pos (by omega)]
  rw [e2]
  have e3 := mul_bd (a := x * x) (b := x) (A := 17592177655809) (B := 4194303) (by omega) (by omega) h0 h1
  constructor
  · rintro ⟨g1, g2⟩
    have e4 := mul_bd (A := 2642245) (B := 2642245) h0 g2 h0 g2
    have e5 := mul_bd (a := x * x) (b := x) (A := 6981458640025) (B := 2642245) (by omega) (by omega) h0 g2
    unfold uMul at g1
    rw [if_pos (by omega)] at g1
    exact ⟨g1, g2⟩
  · rintro ⟨g1, g2⟩
    unfold uMul
    rw [if_pos (by omega)]
    exact ⟨g1, g2⟩
theorem cb_step (a : Int) (ha : W64 a) (k : Nat) (out : Int) (hlt : k < 22) (h : CbInv a k out) :
    bits BinOp.or IntKind.u64 out (IntKind.u64.wrap (2 ^ (21 - k))) = out + 2 ^ (21 - k) ∧ W64 (out + 2 ^ (21 - k)) ∧
    (cbFits a (out + 2 ^ (21 - k)) = true → CbInv a (k + 1) (out + 2 ^ (21 - k))) ∧ (cbFits a (out + 2 ^ (21 - k)) = false → CbInv a (k + 1) out) := by
  obtain ⟨h0, h1, ⟨q, hq0, hq⟩, h3⟩ := h
  obtain ⟨n, hn⟩ : ∃ n, 21 - k = n := ⟨_, rfl⟩
  have hk : 22 - k = n + 1 := by omega
  have hk1 : 22 - (k + 1) = n := by omega
  rw [hn]
  have hp : (0 : Int) < 2 ^ n := Int.pow_pos (by omega)
  have hp2 : (2 : Int) ^ (n + 1) = 2 ^ n + 2 ^ n := by rw [Int.pow_succ]; omega
  have hpn : (2 : Nat) ^ n ≤ 2 ^ 21 := Nat.pow_le_pow_right (by omega) (by omega)
  have hpi : (2 : Int) ^ n ≤ 2097152 := by
    have : ((2 ^ n : Nat) : Int) ≤ ((2 ^ 21 : Nat) : Int) := by exact_mod_cast hpn
    rw [Int.natCast_pow] at this
    simpa using this
  -- the highest bits alone: out + 2^(n+1) is at most 2^22
  have htop : out + 2 ^ (n + 1) ≤ 4194304 := by
    have e22 : (4194304 : Int) = 2 ^ k * 2 ^ (n + 1) := by rw [← Int.pow_add, show k + (n + 1) = 22 by omega]; rfl
    have hP := Int.pow_pos (n := 2) (m := n + 1) (by omega)
    rw [hk] at hq
    have : q < 2 ^ k := by
      have : q * 2 ^ (n + 1) < 2 ^ k * 2 ^ (n + 1) := by rw [← hq, ← e22]; omega
      exact Int.lt_of_mul_lt_mul_right this (by omega)
    rw [hq, e22, show q * 2 ^ (n + 1) + 2 ^ (n + 1) = (q + 1) * 2 ^ (n + 1) by rw [Int.add_mul, Int.one_mul]]
    exact Int.mul_le_mul_of_nonneg_right (by omega) (by omega)
  rw [hk] at h3
  have hfit := cbFits_iff a (out + 2 ^ n) ha (by omega) (by omega)
  refine ⟨?_, by omega, fun hf => ?_, fun hf => ?_⟩
  · rw [w64 (by omega), hq, hk]
    exact or_low q (2 ^ n) (n + 1) (by omega) hq0 (by omega) (by omega) (by rw [← hk, ← hq]; omega)
  · refine ⟨by omega, by omega, ⟨2 * q + 1, by omega, ?_⟩, ?_⟩
    · rw [hk1, hq, hk, hp2, Int.mul_add, Int.add_mul, Int.one_mul, Int.mul_assoc]; omega
    · rw [hk1, ← h3]
      simp only [cbAux]
      unfold cbStep
      rw [if_pos (hfit.1 hf)]
  · refine ⟨by omega, by omega, ⟨2 * q, by omega, ?_⟩, ?_⟩
    · rw [hk1, hq, hk, hp2, Int.mul_add, Int.mul_assoc]; omega
    · rw [hk1, ← h3]
      simp only [cbAux]
      unfold cbStep
      rw [if_neg (fun hh => by rw [← hfit] at hh; simp [hf] at hh)]
set_option maxHeartbeats 1000000 in
theorem cb_walk (a : Int) (ha : W64 a) (w : World) :
    Calls Try.prog 27 #[.int .u64 a] w fun e w' => e = .returned (.int .u64 (uCbrt a)) ∧ Below w.heap.size w w' := by
  have hmf : ∀ (fn : Fn) (first cap : Array Value) (w : World), (Instr.makeFunc fn first cap).run Try.prog w = .ok (.func fn first cap) w := fun _ _ _ _ => rfl
  go_enter Try.func27, Try.ntmps27
  go_wp2
  go_loopw [4, 8] (fun o i wr => ∃ (k : Nat) (out : Int), k ≤ 22 ∧ i = .int .i64 k ∧ o = .int .u64 out ∧ CbInv a k out ∧ Drawn0 (w.alloc (.cells #[.int .u64 a] 23)) wr) (fun _ i _ => 22 - (intOf i).toNat)
  case atStart => exact ⟨0, 0, by omega, rfl, rfl, cb_start a, Drawn0.refl _⟩
  case round =>
    obtain ⟨k, out, hk, rfl, rfl, hinv, hdr⟩ := hrel
    obtain ⟨nd, rfl⟩ := hdr
    by_cases hlt : k < 22
    · obtain ⟨hx, hxw, hyes, hno⟩ := cb_step a ha k out hlt hinv
      by_cases hf : cbFits a (out + 2 ^ (21 - k)) = true
      · have hinv' := Lib.hid (hyes hf)
        clear hyes hno hinv
        go_wp2_with (fail)
        refine (cb_fits (out + 2 ^ (21 - k)) a hxw w.heap.size _ (by go_simp)).mono ?_
        rintro e w' ⟨rfl, ⟨nd', rfl⟩⟩
        rw [hf]
        clear hx hf
        go_wp2
        go_roundw
        case rel => exact ⟨k + 1, _, by omega, by go_num, rfl, hinv'.out, ⟨_, rfl⟩⟩
        case measure => simp [intOf]; omega
      · have hf' : cbFits a (out + 2 ^ (21 - k)) = false := by simpa using hf
        have hinv' := Lib.hid (hno hf')
        clear hyes hno hinv hf
        go_wp2_with (fail)
        refine (cb_fits (out + 2 ^ (21 - k)) a hxw w.heap.size _ (by go_simp)).mono ?_
        rintro e w' ⟨rfl, ⟨nd', rfl⟩⟩
        rw [hf']
        clear hx hf'
        go_wp2
        go_roundw
        case rel => exact ⟨k + 1, _, by omega, by go_num, rfl, hinv'.out, ⟨_, rfl⟩⟩
        case measure => simp [intOf]; omega
    · obtain rfl : k = 22 := by omega
      have hend := Lib.hid hinv.2.2.2
      clear hinv
      go_wp2
      go_ret
      exact ⟨ret_int hend.out, pw_below_drewN (below_alloc (Below.refl _ _) _) _⟩
def fix_Cbrt.f (a0 : Int) : Option Int := if W64 a0 then some (uCbrt a0) else none
theorem fix_Cbrt.calls (a0 : Int) (r : Int) (w : World) (h : fix_Cbrt.f a0 = some r) :
    Calls Try.prog 27 #[.int .u64 a0] w fun e w' => e = .returned (.int .u64 r) ∧ Below w.heap.size w w' := by
  unfold fix_Cbrt.f at h
  split at h
  · obtain rfl := Option.some.inj h
    exact cb_walk a0 ‹_› w
  · cases h


end Go.Proofs.Ytpgffmnbdggpnaa.PCv
