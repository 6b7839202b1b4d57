/- Regions of a round of a range over a function, walked as anywhere. No program in sight: for every program. -/
import Derived.RangeFuncNested
import Derived.RangeFuncCalls
import Derived.Test.YtphakdfholkbdaaWWords
import Derived.Test.YtphakdfholkbdaaWLast
namespace Go.Proofs.Ytphakdfholkbdaa
open Go.Proofs.YtphakdfholkbdaaW.PrintWords Go.Proofs.YtphakdfholkbdaaW.PrintLast
set_option linter.unusedVariables false
theorem rowsIn_wide {n l0 : Nat} {P : Program} {row : String} {args : Array Value} {w : World} {R : Value → World → Prop} (h : Rows P row args w R) : RowsIn (Fence.wide.inRound l0) n P row args w R :=
  fun c cs _ => let ⟨v, w', r, s⟩ := h c cs; ⟨v, w', r, stepsIn_wide.2 s⟩
section
variable {P : Program} {ops : Array Oper} {Q : Exit → Act → World → Prop} {l0 n : Nat}
theorem upon_in {o : Oper} {a : Act} {next next' : Act → World → Prop} (hn : ∀ a w, next a w → next' a w) : ∀ r, o.upon P a next Q r → o.uponIn (Fence.wide.inRound l0) n P a next' Q r := by
  intro r h
  cases r with
  | ok x w' =>
    cases x with
    | value v => exact hn _ _ h
    | skip => exact hn _ _ h
    | defer d => exact hn _ _ h
    | enter f args =>
      refine ⟨fun hd => by simp [Fence.wide] at hd, ?_⟩
      refine CallsIn.inRound l0 (callsIn_wide.2 (Calls.mono h ?_))
      intro e w'' hR
      cases e with
      | returned v => exact hn _ _ hR
      | panicked chain => exact hR
      | outgrown => exact hR
    | row row args =>
      refine ⟨fun hd => by simp [Fence.wide] at hd, ?_⟩
      exact rowsIn_wide (Rows.mono h (fun v w' hR => hn _ _ hR))
    | _ => exact h.elim
  | halt x w' =>
    cases x with
    | panic v => exact h
    | _ => exact h.elim
theorem wpOps_in (hL : ¬ LetsOut Q) (hd : ∀ (i : Nat) (o : Oper), ops[i]? = some o → ∀ c : Call, o.op ≠ .defer c) : ∀ (l : List Nat) (a : Act) (w : World), wpOps P ops Q l a w → wpOpsIn (Fence.wide.inRound l0) n P ops Q l a w := by
  intro l
  induction l with
  | nil => exact fun a w h => h
  | cons i rest ih =>
    intro a w h
    simp only [wpOps] at h
    simp only [wpOpsIn]
    cases ho : ops[i]? with
    | none => rw [ho] at h; exact ih a w h
    | some o =>
      rw [ho] at h
      simp only [] at h ⊢
      split
      · rename_i hw
        rw [if_pos hw] at h
        rcases h with h | ⟨_, h⟩
        · refine ⟨fun _ _ => trivial, ?_⟩
          rw [Fence.inRound_round, Oper.semAt_eq _ _ _ (hd i o ho)]
          exact upon_in (fun a w hh => ih a w hh) _ h
        · exact absurd h hL
      · rename_i hw
        rw [if_neg hw] at h
        exact ⟨fun _ _ => trivial, ih _ _ h⟩
/-- No operation of these defers a call. -/
def noDefer (ops : Array Oper) : Bool := ops.all fun o => match o.op with | .defer _ => false | _ => true
theorem noDefer_spec (h : noDefer ops = true) : ∀ (i : Nat) (o : Oper), ops[i]? = some o → ∀ c : Call, o.op ≠ .defer c := by
  intro i o ho c hc
  have hm : o ∈ ops := Array.mem_of_getElem? ho
  have := (Array.all_eq_true_iff_forall_mem.1 h) o hm
  rw [hc] at this
  cases this
theorem regIn {id : Nat} {l : List Oper} {a : Act} {w : World} (hL : ¬ LetsOut Q) (hd : noDefer l.toArray = true) (h : wpList P l.toArray Q l a w) : (Code.region id l.toArray false).wpIn (Fence.wide.inRound l0) n P Q a w :=
  wpIn_region (wpOps_in hL (noDefer_spec hd) _ _ _ (by rw [List.range_eq_range', show l.toArray.size = l.length by simp, wpOps_eq_wpList l 0 (by simp)]; exact h))
theorem regIn_draw {S : World → Prop} {ds : List Nat} {id m : Nat} {a : Act} {w : World} (hL : ¬ LetsOut Q) (hd : noDefer ops = true) (l : Array Bool) (hm : P.follows .mixedOrders = true) (hn : ops.size = m) (hl : Array.replicate m false = l) (hS : S w.drew)
    (h : S w.drew → wpAnyLast P .any ops Q S ds m l a w.drew) : (Code.region id ops true).wpIn (Fence.wide.inRound l0) n P Q a w :=
  wpIn_region_draw fun t => by
    subst hn
    subst hl
    simp only [Region.schedule, hm, Bool.true_or, if_true]
    exact wpOps_in hL (noDefer_spec hd) _ _ _ (wpAny_sound ops.size t _ a _ (wpAny_of_last _ _ _ _ (h hS)))
end
end Go.Proofs.Ytphakdfholkbdaa
