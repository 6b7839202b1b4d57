/- Plain numbers of layer 1: sums, differences, products, products through a number and roots of numbers of 64 bits, and what they are. No program in sight. -/
import Derived.Laws.Entries
import Derived.RowKit
import Derived.Laws.BitsAllLaws
import Derived.Test.YtphakdfholkbdaaWWords
namespace Go.Proofs.Ytphakdfholkbdaa
open Go.RowKit Go.Proofs.YtphakdfholkbdaaW.PrintWords

/-- A number of 64 bits. -/
abbrev W64 (x : Int) : Prop := 0 ≤ x ∧ x ≤ 18446744073709551615
theorem ww (x : Int) : IntKind.u64.wrap x = x % 18446744073709551616 := by
  simp [IntKind.wrap, IntKind.bits, IntKind.signed]
theorem w64 {x : Int} (h : W64 x) : IntKind.u64.wrap x = x := by rw [ww]; omega
theorem w64_mod (x : Int) : W64 (x % 18446744073709551616) := ⟨by omega, by omega⟩
theorem w64_wrap (x : Int) : W64 (IntKind.u64.wrap x) := by rw [ww]; exact w64_mod x
theorem mul_bd {a b A B : Int} (ha : 0 ≤ a) (hA : a ≤ A) (hb : 0 ≤ b) (hB : b ≤ B) : 0 ≤ a * b ∧ a * b ≤ A * B :=
  ⟨Int.mul_nonneg ha hb, Int.mul_le_mul hA hB hb (by omega)⟩

theorem ret_int {k : IntKind} {a b : Int} (h : a = b) : Ending.returned (.int k a) = .returned (.int k b) := by rw [h]
theorem ret_bool {a b : Bool} (h : a = b) : Ending.returned (.bool a) = .returned (.bool b) := by rw [h]

/-- A contract of a callee that only draws, as a region's quiet walk asks it. -/
theorem quiet_c {P : Program} {f : FuncId} {args : Array Value} {w : World} {v : Value} (h : ∀ w, Calls P f args w fun e w' => e = .returned v ∧ Drawn0 w w') (n : Nat) : Calls P f args (w.drewN n) fun e w' => e = .returned v ∧ ∃ m, w' = w.drewN m :=
  (h _).mono fun e w' ⟨he, ⟨m, hm⟩⟩ => ⟨he, n + m, by rw [hm, World.drewN_drewN]⟩

def uAdd (a b : Int) : Int := if a + b ≤ 18446744073709551615 then a + b else 18446744073709551615
def uSub (a b : Int) : Int := if b ≤ a then a - b else 0
def uMul (a b : Int) : Int := if a * b ≤ 18446744073709551615 then a * b else 18446744073709551615
def uMulDiv (a b c : Int) : Int := if a * b = 0 then 0 else if c * 18446744073709551616 ≤ a * b then 18446744073709551615 else a * b / c
def cbStep (a out : Int) (n : Nat) : Int := if (out + 2 ^ n) * (out + 2 ^ n) * (out + 2 ^ n) ≤ a ∧ out + 2 ^ n ≤ 2642245 then out + 2 ^ n else out
def cbAux (a : Int) : Nat → Int → Int
  | 0, out => out
  | n + 1, out => cbAux a n (cbStep a out n)
def uCbrt (a : Int) : Int := cbAux a 22 0

/-- A window's number between the least and the greatest. -/
def uHeld (x : Int) : Int := if x < 2400 then 2400 else if 16777216 < x then 16777216 else x
theorem uHeld_w (x : Int) : W64 (uHeld x) := by unfold uHeld; split <;> (try split) <;> omega
theorem uHeld_in (x : Int) : 2400 ≤ uHeld x ∧ uHeld x ≤ 16777216 := by unfold uHeld; split <;> (try split) <;> omega
theorem uHeld_mono {x y : Int} (h : x ≤ y) : uHeld x ≤ uHeld y := by unfold uHeld; split <;> (try split) <;> (try split) <;> (try split) <;> omega
theorem uAdd_w {a b : Int} (ha : W64 a) (hb : W64 b) : W64 (uAdd a b) := by unfold uAdd; split <;> omega
theorem uSub_w {a b : Int} (ha : W64 a) (hb : W64 b) : W64 (uSub a b) := by unfold uSub; split <;> omega
theorem uMul_w {a b : Int} (ha : W64 a) (hb : W64 b) : W64 (uMul a b) := by
  have := Int.mul_nonneg ha.1 hb.1
  unfold uMul; split <;> omega
theorem uMulDiv_w {a b c : Int} (ha : W64 a) (hb : W64 b) (hc : W64 c) : W64 (uMulDiv a b c) := by
  have hp := Int.mul_nonneg ha.1 hb.1
  unfold uMulDiv
  generalize a * b = p at *
  split
  · omega
  split
  · omega
  · have h0 : 0 < c := by
      rcases Int.lt_or_le 0 c with h | h
      · exact h
      · exfalso; have : c = 0 := by omega
        subst this; omega
    refine ⟨Int.ediv_nonneg hp hc.1, ?_⟩
    have : p / c < 18446744073709551616 := (Int.ediv_lt_iff_lt_mul h0).2 (by omega)
    omega

/-! ### Roots -/
theorem cube_mono {x y : Int} (hx : 0 ≤ x) (h : x ≤ y) : x * x * x ≤ y * y * y :=
  Int.mul_le_mul (Int.mul_le_mul h h hx (by omega)) h hx (Int.mul_nonneg (by omega) (by omega))
theorem cube_lt {x y : Int} (hx : 0 ≤ x) (h : x < y) : x * x * x < y * y * y := by
  have h1 : x * x * x ≤ x * x * y := Int.mul_le_mul_of_nonneg_left (by omega) (Int.mul_nonneg hx hx)
  have h2 : x * x ≤ x * y := Int.mul_le_mul_of_nonneg_left (by omega) hx
  have h3 : x * y < y * y := Int.mul_lt_mul_of_pos_right h (by omega)
  have h4 : x * x * y < y * y * y := Int.mul_lt_mul_of_pos_right (by omega) (by omega)
  omega
theorem cbAux_tells (a : Int) (ha : 0 ≤ a) : ∀ (n : Nat) (out : Int), 0 ≤ out → out ≤ 2642245 → out * out * out ≤ a →
    (∀ y, out + 2 ^ n ≤ y → ¬ (y * y * y ≤ a ∧ y ≤ 2642245)) →
    0 ≤ cbAux a n out ∧ cbAux a n out ≤ 2642245 ∧ cbAux a n out * cbAux a n out * cbAux a n out ≤ a ∧ ∀ y, cbAux a n out < y → ¬ (y * y * y ≤ a ∧ y ≤ 2642245)
  | 0, out, h0, h1, h2, h3 => ⟨h0, h1, h2, fun y hy => h3 y (by simp [cbAux] at hy; simp; omega)⟩
  | n + 1, out, h0, h1, h2, h3 => by
    have hp : (0 : Int) < 2 ^ n := Int.pow_pos (by omega)
    have h2n : (2 : Int) ^ (n + 1) = 2 ^ n + 2 ^ n := by rw [Int.pow_succ]; omega
    simp only [cbAux]
    by_cases hf : (out + 2 ^ n) * (out + 2 ^ n) * (out + 2 ^ n) ≤ a ∧ out + 2 ^ n ≤ 2642245
    · have e : cbStep a out n = out + 2 ^ n := by unfold cbStep; rw [if_pos hf]
      rw [e]
      exact cbAux_tells a ha n _ (by omega) hf.2 hf.1 (fun y hy => h3 y (by omega))
    · have e : cbStep a out n = out := by unfold cbStep; rw [if_neg hf]
      rw [e]
      refine cbAux_tells a ha n _ h0 h1 h2 (fun y hy hh => hf ?_)
      have := cube_mono (x := out + 2 ^ n) (y := y) (by omega) hy
      exact ⟨by omega, by omega⟩
theorem uCbrt_tells {a : Int} (ha : W64 a) : 0 ≤ uCbrt a ∧ uCbrt a ≤ 2642245 ∧ uCbrt a * uCbrt a * uCbrt a ≤ a ∧ ∀ y, uCbrt a < y → a < y * y * y := by
  obtain ⟨h0, h1, h2, h3⟩ := cbAux_tells a ha.1 22 0 (by omega) (by omega) (by omega) (fun y hy => by simp at hy; omega)
  refine ⟨h0, h1, h2, fun y hy => ?_⟩
  have h3' := h3 y hy
  by_cases hc : y ≤ 2642245
  · by_cases hc2 : y * y * y ≤ a
    · exact absurd ⟨hc2, hc⟩ h3'
    · omega
  · have := cube_mono (x := 2642246) (y := y) (by omega) (by omega)
    omega
theorem uCbrt_w {a : Int} (ha : W64 a) : W64 (uCbrt a) := by obtain ⟨h0, h1, _, _⟩ := uCbrt_tells ha; omega
/-- The root is the only number of its kind. -/
theorem uCbrt_only {a r : Int} (ha : W64 a) (h0 : 0 ≤ r) (h1 : r * r * r ≤ a) (h2 : a < (r + 1) * (r + 1) * (r + 1)) : uCbrt a = r := by
  obtain ⟨g0, g1, g2, g3⟩ := uCbrt_tells ha
  rcases Int.lt_trichotomy (uCbrt a) r with h | h | h
  · have := g3 r h; omega
  · exact h
  · have := cube_mono (x := r + 1) (y := uCbrt a) (by omega) (by omega); omega
theorem bcell_ {W w1 : World} (hb : Below W.heap.size W w1) : (∀ b o, b < W.heap.size → w1.cell? ⟨b, o, none⟩ = W.cell? ⟨b, o, none⟩) ∧ (∀ b o, b < W.heap.size → w1.frozen? ⟨b, o, none⟩ = W.frozen? ⟨b, o, none⟩) :=
  ⟨fun b o h => hb.cell (p := ⟨b, o, none⟩) h, fun b o h => hb.frozen (p := ⟨b, o, none⟩) h⟩
/-- Chapter 14's share of marks, and what becomes of the share that is kept. -/
def uShare (marked acked : Int) : Int := if acked = 0 then 0 else uMulDiv (min marked acked) 1048576 acked
def uAlpha (alpha marked acked : Int) : Int := uAdd (alpha - alpha / 16) (uShare marked acked / 16)
theorem uShare_w {m a : Int} (hm : W64 m) (ha : W64 a) : W64 (uShare m a) := by
  unfold uShare
  split
  · omega
  · exact uMulDiv_w (by omega) (by omega) ha
theorem uAlpha_w {x m a : Int} (hx : W64 x) (hm : W64 m) (ha : W64 a) : W64 (uAlpha x m a) := by
  have := uShare_w hm ha
  exact uAdd_w (by omega) (by omega)
/-- Chapter 14's window behind a mark. -/
def uLess (c0 parts : Int) : Int := uHeld (uSub c0 (uMulDiv c0 parts 2097152))
def uMark (b0 b1 b2 b3 al ac mk en : Int) (ct : Bool) (bytes at_ : Int) : Int × Int × Int × Int × Int × Int × Int × Int × Bool :=
  if ct = true ∨ at_ < b2 then (b0, b1, b2, b3, al, ac, uAdd mk bytes, en, ct) else (uLess b0 al, uLess b0 al, b2, 0, al, ac, uAdd mk bytes, en, true)
theorem uLess_w (x y : Int) : W64 (uLess x y) := uHeld_w _
/-- Chapter 10's window behind bytes that came. -/
def uRenoAck (c0 c1 c2 c3 bytes at_ : Int) (lim : Bool) : Int × Int × Int × Int :=
  if lim = true ∨ at_ < c2 then (c0, c1, c2, c3) else if c0 < c1 then (uHeld (uAdd c0 bytes), c1, c2, c3)
  else (uHeld (uAdd c0 (uAdd c3 (uMul bytes 1200) / max c0 1)), c1, c2, uAdd c3 (uMul bytes 1200) % max c0 1)
end Go.Proofs.Ytphakdfholkbdaa
