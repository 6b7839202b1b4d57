import Derived.Outline
import Derived.Handy
import Derived.Recover
import Derived.WalkSmall
import Derived.Laws.Externs
import Derived.Laws.CopyOwn
import Derived.Lib.AppendZerosOnto
import Derived.Lib.Overlaps
import Derived.Deep.RegionLaw
import Derived.Test.YtphakdfholkbdaaPFrax0
import Derived.Test.YtphakdfholkbdaaNum
import Derived.Test.YtphakdfholkbdaaSeg
import Derived.Test.YtphakdfholkbdaaFraB
import Derived.Test.YtphakdfholkbdaaFrPi
namespace Go.Proofs.Ytphakdfholkbdaa
open Go.Proofs.Ytphakdfholkbdaa.PFra Go.RowKit Go.Proofs.YtphakdfholkbdaaW.PrintWords Go.Proofs.YtphakdfholkbdaaW.PrintLast Go.Proofs.YtphakdfholkbdaaW.PrintMore
set_option maxRecDepth 100000
set_option maxHeartbeats 4000000
set_option linter.unusedVariables false
set_option linter.unusedSimpArgs false
def SpP (wE w0 : World) (sb rb : Nat) (k0 k1 k2 k3 k4 k5 k6 k7 k8 : Value) : Option (List S47 × List Int) → Ending → World → Prop
  | none, e, _ => Gave e
  | some (s, l), e, w' => e = .returned (.tuple #[]) ∧ ∃ sv, Blk w' rb 75 [.pointer (some ⟨sb, 0, none⟩), k0, k1, k2, k3, k4, k5, k6, k7, k8, sv] ∧ SR wE.heap.size w' sv s ∧ Src w0 w' sb l
theorem ptop {v : Int} (h : 0 ≤ v ∧ v < 4611686018427387904) : IntKind.u64.wrap (v + 1) = v + 1 := w64 ⟨by omega, by omega⟩
theorem spans_calls (w0 w : World) (sb rb : Nat) (k0 k1 k2 k3 k4 k5 k6 k7 k8 : Value) (l : List Int) (R : Option (List S47 × List Int)) (hR : rSp l = R) (B0 : Blk w rb 75 [.pointer (some ⟨sb, 0, none⟩), k0, k1, k2, k3, k4, k5, k6, k7, k8, .slice none 0 0]) (S0 : Src w0 w sb l) (H0 : Since w0 w) (hb : bytesOk l = true) (hrb : w0.heap.size ≤ rb) :
    Calls Try.prog 43 #[.pointer (some ⟨rb, 0, none⟩)] w fun e w' => Kept2 sb rb w w' ∧ SpP w w0 sb rb k0 k1 k2 k3 k4 k5 k6 k7 k8 R e w' := by
  have hu := Try.underlying75
  have hu2 := Try.underlying27
  have hu3 := Try.underlying47
  have hrs : rb ≠ sb := S0.ne B0 (by decide)
  have hsb := S0.ge
  have K0 := Kept2.refl sb rb w
  have hwb := H0.le
  have c0 := B0.at 0 rfl
  unfold rSp at hR
  cases hN : uNum l with
  | none =>
    obtain rfl : R = none := by rw [← hR, hN]; rfl
    go_enter Try.func43, Try.ntmps43
    go_wp2_with (first | ((go_at_call 41); (with_reducible refine (number_calls w0 _ sb l S0 H0 hb).mono ?_); rintro e w1 ⟨hT, hP⟩; rw [hN] at hP; have hP : Gave e := hP; unfold Gave at hP; subst hP))
    exact ⟨rfl, K0.one hT, rfl⟩
  | some r =>
    obtain ⟨n, l1⟩ := r
    obtain ⟨hn, hb1, -, -, -, -, -⟩ := uNum_some hb hN
    rw [hN, Option.bind_some] at hR
    by_cases hg : 1 ≤ n ∧ n ≤ 32
    rotate_left
    · obtain rfl : R = none := by rw [← hR, if_neg hg]
      clear hR
      by_cases h1 : 1 ≤ n
      · have h2 : decide (n ≤ 32) = false := decide_eq_false fun h => hg ⟨h1, h⟩
        replace h1 := decide_eq_true h1
        clear hg
        go_enter Try.func43, Try.ntmps43
        go_wp2_with (first | ((go_at_call 41); (with_reducible refine (number_calls w0 _ sb l S0 H0 hb).mono ?_); rintro e w1 ⟨hT, hP⟩; rw [hN] at hP; obtain ⟨rfl, S1⟩ := hP; have B1 := B0.turned hT hrs; have c0 := B1.at 0 rfl; have c10 := B1.at 10 rfl; have f10 := B1.frozen 10; have H1 := H0.kept ((Kept2.refl sb rb _).one hT) hsb hrb; have K1 := K0.one hT; clear hT) | ((go_at_call 42); with_reducible refine (needs_f _).mono ?_; rintro e w' ⟨rfl, rfl⟩))
        exact ⟨rfl, K1, rfl⟩
      · replace h1 := decide_eq_false h1
        clear hg
        go_enter Try.func43, Try.ntmps43
        go_wp2_with (first | ((go_at_call 41); (with_reducible refine (number_calls w0 _ sb l S0 H0 hb).mono ?_); rintro e w1 ⟨hT, hP⟩; rw [hN] at hP; obtain ⟨rfl, S1⟩ := hP; have B1 := B0.turned hT hrs; have c0 := B1.at 0 rfl; have c10 := B1.at 10 rfl; have f10 := B1.frozen 10; have H1 := H0.kept ((Kept2.refl sb rb _).one hT) hsb hrb; have K1 := K0.one hT; clear hT) | ((go_at_call 42); with_reducible refine (needs_f _).mono ?_; rintro e w' ⟨rfl, rfl⟩))
        exact ⟨rfl, K1, rfl⟩
    · rw [if_pos hg] at hR
      obtain ⟨hg1, hg2⟩ := hg
      have d1 := decide_eq_true hg1
      have d2 := decide_eq_true hg2
      cases hN1 : uNum l1 with
      | none =>
        obtain rfl : R = none := by rw [← hR, hN1]; rfl
        clear hR
        go_enter Try.func43, Try.ntmps43
        go_wp2_with (first | ((go_at_call 41); (with_reducible refine (number_calls w0 _ sb l1 S1 H1 hb1).mono ?_); rintro e w2 ⟨hT, hP⟩; rw [hN1] at hP; have hP : Gave e := hP; unfold Gave at hP; subst hP) | ((go_at_call 41); (with_reducible refine (number_calls w0 _ sb l S0 H0 hb).mono ?_); rintro e w1 ⟨hT, hP⟩; rw [hN] at hP; obtain ⟨rfl, S1⟩ := hP; have B1 := B0.turned hT hrs; have c0 := B1.at 0 rfl; have c10 := B1.at 10 rfl; have f10 := B1.frozen 10; have H1 := H0.kept ((Kept2.refl sb rb _).one hT) hsb hrb; have K1 := K0.one hT; clear hT) | ((go_at_call 42); with_reducible refine (needs_t _).mono ?_; rintro e w' ⟨rfl, rfl⟩))
        exact ⟨rfl, K1.one hT, rfl⟩
      | some r =>
        obtain ⟨tp, l2⟩ := r
        obtain ⟨ht, hb2, -, -, -, -, -⟩ := uNum_some hb1 hN1
        rw [hN1, Option.bind_some] at hR
        have hR := Aside0.mk hR
        have e1 := ptop ht
        go_enter Try.func43, Try.ntmps43
        go_wp2_with (first | ((go_at_call 41); (with_reducible refine (number_calls w0 _ sb l1 S1 H1 hb1).mono ?_); rintro e w2 ⟨hT, hP⟩; rw [hN1] at hP; obtain ⟨rfl, S2⟩ := hP; have B2 := B1.turned hT hrs; have c0 := B2.at 0 rfl; have c10 := B2.at 10 rfl; have f10 := B2.frozen 10; have H2 := H1.kept ((Kept2.refl sb rb _).one hT) hsb hrb; have K2 := K1.one hT; clear hT) | ((go_at_call 41); (with_reducible refine (number_calls w0 _ sb l S0 H0 hb).mono ?_); rintro e w1 ⟨hT, hP⟩; rw [hN] at hP; obtain ⟨rfl, S1⟩ := hP; have B1 := B0.turned hT hrs; have c0 := B1.at 0 rfl; have c10 := B1.at 10 rfl; have f10 := B1.frozen 10; have H1 := H0.kept ((Kept2.refl sb rb _).one hT) hsb hrb; have K1 := K0.one hT; clear hT) | ((go_at_call 42); with_reducible refine (needs_t _).mono ?_; rintro e w' ⟨rfl, rfl⟩))
        go_loopw [26, 3] (fun i t wr => ∃ (q : Nat) (tq : Int) (s : List S47) (lq : List Int) (sv : Value), i = .int .u64 q ∧ t = .int .u64 tq ∧ (q : Int) ≤ n ∧ rRounds (n.toNat - q) tq s lq = R ∧ (0 ≤ tq ∧ tq ≤ 4611686018427387904) ∧ bytesOk lq = true ∧ s.length ≤ q ∧ (∀ x ∈ s, 0 ≤ x.f0 ∧ x.f0 ≤ 4611686018427387904) ∧ (s = [] → sv = .slice none 0 0) ∧ Blk wr rb 75 [.pointer (some ⟨sb, 0, none⟩), k0, k1, k2, k3, k4, k5, k6, k7, k8, sv] ∧ SR w.heap.size wr sv s ∧ Src w0 wr sb lq ∧ Since w0 wr ∧ Kept2 sb rb w wr) (fun i _ _ => n.toNat - (intOf i).toNat)
        case atStart => exact ⟨0, tp + 1, [], l2, _, rfl, rfl, by omega, hR.out, by omega, hb2, Nat.le_refl _, (fun x hx => absurd hx (by simp)), (fun _ => rfl), B2, SR.nil _ _, S2, H2, K2⟩
        case round =>
          clear c0 c10 f10 B2 S2 H2 K2 B1 S1 H1 K1 hR
          obtain ⟨q, tq, s, lq, sv, rfl, rfl, hq, hRR, htq, hbq, hsl, hmem, hnil, BQ, RQ, SQ, HQ, KQ⟩ := hrel
          have c0 := BQ.at 0 rfl
          have c10 := BQ.at 10 rfl
          by_cases hlt : (q : Int) < n
          · have dlt := decide_eq_true hlt
            obtain ⟨k, hk⟩ : ∃ k, n.toNat - q = k + 1 := ⟨n.toNat - q - 1, by omega⟩
            rw [hk] at hRR
            have hk1 : n.toNat - (q + 1) = k := by omega
            have eq1 : IntKind.u64.wrap ((q : Int) + 1) = ((q + 1 : Nat) : Int) := by rw [w64 ⟨by omega, by omega⟩]; rfl
            have hq1 : ((q + 1 : Nat) : Int) ≤ n := by omega
            clear hlt hk
            cases s with
            | nil =>
              obtain rfl := hnil rfl
              have hRR : ((uNum lq).bind fun r => if r.1 + 1 ≤ tq then rRounds k tq [⟨tq - (r.1 + 1), tq⟩] r.2 else none) = R := hRR
              cases hN2 : uNum lq with
              | none =>
                obtain rfl : R = none := by rw [← hRR, hN2]; rfl
                clear hRR
                go_wp2_with (first | ((go_at_call 41); (with_reducible refine (number_calls w0 _ sb lq SQ HQ hbq).mono ?_); rintro e w3 ⟨hT, hP⟩; rw [hN2] at hP; have hP : Gave e := hP; unfold Gave at hP; subst hP))
                exact ⟨rfl, KQ.one hT, rfl⟩
              | some r =>
                obtain ⟨z, l3⟩ := r
                obtain ⟨hz, hb3, -, -, -, -, -⟩ := uNum_some hbq hN2
                have e2 := ptop hz
                rw [hN2, Option.bind_some] at hRR
                by_cases hg2 : z + 1 ≤ tq
                · have dz := decide_eq_true hg2
                  rw [if_pos hg2] at hRR
                  have hRR := Aside0.mk hRR
                  have e3 : IntKind.u64.wrap (tq - (z + 1)) = tq - (z + 1) := w64 ⟨by omega, by omega⟩
                  have hl1 : ([] : List S47).length ≤ 1000 := by simp
                  have hmem2 : ∀ x ∈ [(⟨tq - (z + 1), tq⟩ : S47)], 0 ≤ x.f0 ∧ x.f0 ≤ 4611686018427387904 := by intro x hx; simp at hx; subst hx; show 0 ≤ tq - (z + 1) ∧ tq - (z + 1) ≤ _; omega
                  go_wp2_with (first | ((go_at_call 41); (with_reducible refine (number_calls w0 _ sb lq SQ HQ hbq).mono ?_); rintro e w3 ⟨hT, hP⟩; rw [hN2] at hP; obtain ⟨rfl, S3⟩ := hP; have B3 := BQ.turned hT hrs; have c0 := B3.at 0 rfl; have c10 := B3.at 10 rfl; have f10 := B3.frozen 10; have H3 := HQ.kept ((Kept2.refl sb rb _).one hT) hsb hrb; have K3 := KQ.one hT; have R3 := RQ.turnedS SQ hT; clear hT) | ((go_at_call 42); with_reducible refine (needs_t _).mono ?_; rintro e w' ⟨rfl, rfl⟩) | ((with_reducible refine gate_dst (N := 77) rfl ?_); refine seg_lit rfl (N := 77) rfl [.int .u64 (tq - (z + 1)), .int .u64 tq] 47 1 ?hr ?_; (case hr => first | (go_simp; done) | (go_simp; rfl)); intro vb hvb w4 BV0 hlb; have BV : Blk w4 vb 47 (flat [⟨tq - (z + 1), tq⟩]) := BV0; clear BV0; have hvn : ∀ k, Value.ownBlock (.slice none 0 0) = some k → vb ≠ k := (fun k hk => by have := Kd.R_lt R3.to k hk; omega); clear hvb; have B4 := B3.below hlb; have S4 := S3.below hlb; have R4 := R3.below hlb; have K4 := K3.below hlb; have H4 := H3.below hlb; clear hlb) | ((go_at_call 52); (with_reducible refine (insertC w.heap.size _ (.slice none 0 0) [] vb ⟨tq - (z + 1), tq⟩ R4 (fun _ => rfl) BV hvn hl1 K4.size).mono ?_); rintro e w5 ⟨v', rfl, R5, hgi⟩; obtain ⟨AV, cV, rfl⟩ := Kd.R_slice R5.to; have B5 := B4.row hgi (R4.ne B4 (by decide)); have c10 := B5.at 10 rfl; have f10 := B5.frozen 10; have S5 := S4.row hgi (S4.away R4); have K5 := K4.row hgi R4.ge; have H5 := H4.row hgi (fun k hk => Nat.le_trans hwb (R4.ge k hk)); clear hgi))
                  go_roundw
                  case rel => exact ⟨q + 1, tq, ⟨tq - (z + 1), tq⟩ :: [], l3, _, by go_num, rfl, hq1, by rw [hk1]; exact hRR.out, by omega, hb3, by first | (simp; done) | (simpa using hsl), hmem2, (fun h => absurd h (by simp)), B5.set 10 _ rfl, R5.setFar B5 (by decide), S5.setFar hrs.symm, H5.set hrb, K5.set⟩
                  case measure => simp [intOf]; omega
                · have dz := decide_eq_false hg2
                  obtain rfl : R = none := by rw [← hRR, if_neg hg2]
                  clear hRR
                  go_wp2_with (first | ((go_at_call 41); (with_reducible refine (number_calls w0 _ sb lq SQ HQ hbq).mono ?_); rintro e w3 ⟨hT, hP⟩; rw [hN2] at hP; obtain ⟨rfl, S3⟩ := hP; have B3 := BQ.turned hT hrs; have c0 := B3.at 0 rfl; have c10 := B3.at 10 rfl; have f10 := B3.frozen 10; have H3 := HQ.kept ((Kept2.refl sb rb _).one hT) hsb hrb; have K3 := KQ.one hT; have R3 := RQ.turnedS SQ hT; clear hT) | ((go_at_call 42); with_reducible refine (needs_f _).mono ?_; rintro e w' ⟨rfl, rfl⟩))
                  exact ⟨rfl, K3, rfl⟩
            | cons x0 s' =>
              obtain ⟨f0, f1⟩ := x0
              have hx : 0 ≤ f0 ∧ f0 ≤ 4611686018427387904 := hmem _ (List.mem_cons_self ..)
              have hRR : ((uNum lq).bind fun r => if r.1 + 1 < f0 then ((uNum r.2).bind fun r2 => if r2.1 + 1 ≤ f0 - (r.1 + 1) then rRounds k (f0 - (r.1 + 1)) (⟨f0 - (r.1 + 1) - (r2.1 + 1), f0 - (r.1 + 1)⟩ :: ⟨f0, f1⟩ :: s') r2.2 else none) else none) = R := hRR
              have hm0 : 0 < (⟨f0, f1⟩ :: s' : List S47).length := Nat.succ_pos _
              obtain ⟨g, c, rest, rfl, hge, BS, hlc, hcm, hsz⟩ := RQ.open hm0
              clear hnil
              have cS : wr.cell? ⟨g, 0, none⟩ = some (.int .u64 f0) := (BS.cell 0).trans rfl
              obtain ⟨m, hm⟩ : ∃ m, m = (⟨f0, f1⟩ :: s' : List S47).length := ⟨_, rfl⟩
              rw [← hm] at hm0 hlc c10 BQ RQ
              clear hm
              have dm : decide ((0 : Int) < (m : Int)) = true := decide_eq_true (by omega)
              cases hN2 : uNum lq with
              | none =>
                obtain rfl : R = none := by rw [← hRR, hN2]; rfl
                clear hRR
                go_wp2_with (first | ((go_at_call 41); (with_reducible refine (number_calls w0 _ sb lq SQ HQ hbq).mono ?_); rintro e w3 ⟨hT, hP⟩; rw [hN2] at hP; have hP : Gave e := hP; unfold Gave at hP; subst hP))
                exact ⟨rfl, KQ.one hT, rfl⟩
              | some r =>
                obtain ⟨p, l3⟩ := r
                obtain ⟨hp, hb3, -, -, -, -, -⟩ := uNum_some hbq hN2
                have e2 := ptop hp
                rw [hN2, Option.bind_some] at hRR
                by_cases hg2 : p + 1 < f0
                · have dp := decide_eq_true hg2
                  rw [if_pos hg2] at hRR
                  have e4 : IntKind.u64.wrap (f0 - (p + 1)) = f0 - (p + 1) := w64 ⟨by omega, by omega⟩
                  cases hN3 : uNum l3 with
                  | none =>
                    obtain rfl : R = none := by rw [← hRR, hN3]; rfl
                    clear hRR
                    go_wp2_with (first | ((go_at_call 41); (with_reducible refine (number_calls w0 _ sb l3 S3 H3 hb3).mono ?_); rintro e w4 ⟨hT, hP⟩; rw [hN3] at hP; have hP : Gave e := hP; unfold Gave at hP; subst hP) | ((go_at_call 41); (with_reducible refine (number_calls w0 _ sb lq SQ HQ hbq).mono ?_); rintro e w3 ⟨hT, hP⟩; rw [hN2] at hP; obtain ⟨rfl, S3⟩ := hP; have B3 := BQ.turned hT hrs; have c0 := B3.at 0 rfl; have c10 := B3.at 10 rfl; have f10 := B3.frozen 10; have H3 := HQ.kept ((Kept2.refl sb rb _).one hT) hsb hrb; have K3 := KQ.one hT; have R3 := RQ.turnedS SQ hT; have BS3 := BS.turned hT (SQ.ne BS (by decide)); have cS : w3.cell? ⟨g, 0, none⟩ = some (.int .u64 f0) := (BS3.cell 0).trans rfl; clear hT) | ((go_at_call 42); with_reducible refine (needs_t _).mono ?_; rintro e w' ⟨rfl, rfl⟩))
                    exact ⟨rfl, K3.one hT, rfl⟩
                  | some r =>
                    obtain ⟨z, l4⟩ := r
                    obtain ⟨hz, hb4, -, -, -, -, -⟩ := uNum_some hb3 hN3
                    have e5 := ptop hz
                    rw [hN3, Option.bind_some] at hRR
                    by_cases hg3 : z + 1 ≤ f0 - (p + 1)
                    · have dz := decide_eq_true hg3
                      rw [if_pos hg3] at hRR
                      have hRR := Aside0.mk hRR
                      have e3 : IntKind.u64.wrap (f0 - (p + 1) - (z + 1)) = f0 - (p + 1) - (z + 1) := w64 ⟨by omega, by omega⟩
                      have hl1 : (⟨f0, f1⟩ :: s' : List S47).length ≤ 1000 := by omega
                      have hmem2 : ∀ x ∈ (⟨f0 - (p + 1) - (z + 1), f0 - (p + 1)⟩ :: ⟨f0, f1⟩ :: s' : List S47), 0 ≤ x.f0 ∧ x.f0 ≤ 4611686018427387904 := by
                        intro x hx
                        rcases List.mem_cons.1 hx with rfl | hx
                        · show 0 ≤ f0 - (p + 1) - (z + 1) ∧ f0 - (p + 1) - (z + 1) ≤ _; omega
                        · exact hmem x hx
                      go_wp2_with (first | ((go_at_call 41); (with_reducible refine (number_calls w0 _ sb l3 S3 H3 hb3).mono ?_); rintro e w4 ⟨hT, hP⟩; rw [hN3] at hP; obtain ⟨rfl, S4⟩ := hP; have B4 := B3.turned hT hrs; have c0 := B4.at 0 rfl; have c10 := B4.at 10 rfl; have f10 := B4.frozen 10; have H4 := H3.kept ((Kept2.refl sb rb _).one hT) hsb hrb; have K4 := K3.one hT; have R4 := R3.turnedS S3 hT; have BS4 := BS3.turned hT (S3.ne BS3 (by decide)); have cS : w4.cell? ⟨g, 0, none⟩ = some (.int .u64 f0) := (BS4.cell 0).trans rfl; clear hT) | ((go_at_call 41); (with_reducible refine (number_calls w0 _ sb lq SQ HQ hbq).mono ?_); rintro e w3 ⟨hT, hP⟩; rw [hN2] at hP; obtain ⟨rfl, S3⟩ := hP; have B3 := BQ.turned hT hrs; have c0 := B3.at 0 rfl; have c10 := B3.at 10 rfl; have f10 := B3.frozen 10; have H3 := HQ.kept ((Kept2.refl sb rb _).one hT) hsb hrb; have K3 := KQ.one hT; have R3 := RQ.turnedS SQ hT; have BS3 := BS.turned hT (SQ.ne BS (by decide)); have cS : w3.cell? ⟨g, 0, none⟩ = some (.int .u64 f0) := (BS3.cell 0).trans rfl; clear hT) | ((go_at_call 42); with_reducible refine (needs_t _).mono ?_; rintro e w' ⟨rfl, rfl⟩) | ((with_reducible refine gate_dst (N := 77) rfl ?_); refine seg_lit rfl (N := 77) rfl [.int .u64 ((f0 - (p + 1)) - (z + 1)), .int .u64 (f0 - (p + 1))] 47 1 ?hr ?_; (case hr => first | (go_simp; done) | (go_simp; rfl)); intro vb hvb w5 BV0 hlb; have BV : Blk w5 vb 47 (flat [⟨(f0 - (p + 1)) - (z + 1), (f0 - (p + 1))⟩]) := BV0; clear BV0; have hvn : ∀ k, Value.ownBlock (.slice (some ⟨g, 0, none⟩) m c) = some k → vb ≠ k := (fun k hk => by have := Kd.R_lt R4.to k hk; omega); clear hvb; have B5 := B4.below hlb; have S5 := S4.below hlb; have R5 := R4.below hlb; have K5 := K4.below hlb; have H5 := H4.below hlb; clear hlb) | ((go_at_call 52); (with_reducible refine (insertC w.heap.size _ (.slice (some ⟨g, 0, none⟩) m c) (⟨f0, f1⟩ :: s') vb ⟨(f0 - (p + 1)) - (z + 1), (f0 - (p + 1))⟩ R5 (fun h => by cases h) BV hvn hl1 K5.size).mono ?_); rintro e w6 ⟨v', rfl, R6, hgi⟩; obtain ⟨AV, cV, rfl⟩ := Kd.R_slice R6.to; have B6 := B5.row hgi (R5.ne B5 (by decide)); have c10 := B6.at 10 rfl; have f10 := B6.frozen 10; have S6 := S5.row hgi (S5.away R5); have K6 := K5.row hgi R5.ge; have H6 := H5.row hgi (fun k hk => Nat.le_trans hwb (R5.ge k hk)); clear hgi))
                      go_roundw
                      case rel => exact ⟨q + 1, (f0 - (p + 1)), ⟨(f0 - (p + 1)) - (z + 1), (f0 - (p + 1))⟩ :: (⟨f0, f1⟩ :: s'), l4, _, by go_num, rfl, hq1, by rw [hk1]; exact hRR.out, by omega, hb4, by first | (simp; done) | (simpa using hsl), hmem2, (fun h => absurd h (by simp)), B6.set 10 _ rfl, R6.setFar B6 (by decide), S6.setFar hrs.symm, H6.set hrb, K6.set⟩
                      case measure => simp [intOf]; omega
                    · have dz := decide_eq_false hg3
                      obtain rfl : R = none := by rw [← hRR, if_neg hg3]
                      clear hRR
                      go_wp2_with (first | ((go_at_call 41); (with_reducible refine (number_calls w0 _ sb l3 S3 H3 hb3).mono ?_); rintro e w4 ⟨hT, hP⟩; rw [hN3] at hP; obtain ⟨rfl, S4⟩ := hP; have B4 := B3.turned hT hrs; have c0 := B4.at 0 rfl; have c10 := B4.at 10 rfl; have f10 := B4.frozen 10; have H4 := H3.kept ((Kept2.refl sb rb _).one hT) hsb hrb; have K4 := K3.one hT; have R4 := R3.turnedS S3 hT; have BS4 := BS3.turned hT (S3.ne BS3 (by decide)); have cS : w4.cell? ⟨g, 0, none⟩ = some (.int .u64 f0) := (BS4.cell 0).trans rfl; clear hT) | ((go_at_call 41); (with_reducible refine (number_calls w0 _ sb lq SQ HQ hbq).mono ?_); rintro e w3 ⟨hT, hP⟩; rw [hN2] at hP; obtain ⟨rfl, S3⟩ := hP; have B3 := BQ.turned hT hrs; have c0 := B3.at 0 rfl; have c10 := B3.at 10 rfl; have f10 := B3.frozen 10; have H3 := HQ.kept ((Kept2.refl sb rb _).one hT) hsb hrb; have K3 := KQ.one hT; have R3 := RQ.turnedS SQ hT; have BS3 := BS.turned hT (SQ.ne BS (by decide)); have cS : w3.cell? ⟨g, 0, none⟩ = some (.int .u64 f0) := (BS3.cell 0).trans rfl; clear hT) | ((go_at_call 42); first | ((with_reducible refine (needs_t _).mono ?_); rintro e w' ⟨rfl, rfl⟩) | ((with_reducible refine (needs_f _).mono ?_); rintro e w' ⟨rfl, rfl⟩)))
                      exact ⟨rfl, K4, rfl⟩
                · have dp := decide_eq_false hg2
                  obtain rfl : R = none := by rw [← hRR, if_neg hg2]
                  clear hRR
                  go_wp2_with (first | ((go_at_call 41); (with_reducible refine (number_calls w0 _ sb lq SQ HQ hbq).mono ?_); rintro e w3 ⟨hT, hP⟩; rw [hN2] at hP; obtain ⟨rfl, S3⟩ := hP; have B3 := BQ.turned hT hrs; have c0 := B3.at 0 rfl; have c10 := B3.at 10 rfl; have f10 := B3.frozen 10; have H3 := HQ.kept ((Kept2.refl sb rb _).one hT) hsb hrb; have K3 := KQ.one hT; have R3 := RQ.turnedS SQ hT; have BS3 := BS.turned hT (SQ.ne BS (by decide)); have cS : w3.cell? ⟨g, 0, none⟩ = some (.int .u64 f0) := (BS3.cell 0).trans rfl; clear hT) | ((go_at_call 42); with_reducible refine (needs_f _).mono ?_; rintro e w' ⟨rfl, rfl⟩))
                  exact ⟨rfl, K3, rfl⟩
          · obtain rfl : n = (q : Int) := by omega
            have dlt := decide_eq_false hlt
            rw [show (q : Int).toNat - q = 0 by omega] at hRR
            subst hRR
            go_wp2
            go_end0
            exact ⟨KQ, rfl, sv, BQ, RQ, SQ⟩

end Go.Proofs.Ytphakdfholkbdaa
