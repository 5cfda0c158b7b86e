/- QuotaGrace, the plain law: at any bounds and any list of steps the printed function of the statement answers true. Conditions: the list's length as the row bounds it; the numbers are int's. -/
import Derived.Test.YtmjkkkllmpagpaaPQuotax11
import Derived.Test.YtmjkkkllmpagpaaQuotaPlain
import Derived.Test.YtmjkkkllmpagpaaSized
namespace Go.Proofs.Ytmjkkkllmpagpaa.Pure
open Go.RowKit Go.Proofs.Ytmjkkkllmpagpaa.PQuota Go.Proofs.YtmjkkkllmpagpaaW.PrintWords Go.Proofs.YtmjkkkllmpagpaaW.PrintLast
open Go.Proofs.Ytmjkkkllmpagpaa.Aid
set_option linter.unusedVariables false
set_option linter.unusedSimpArgs false
namespace Qg

theorem cut_id {v : Int} (h0 : 0 ≤ v) (h1 : v ≤ 1099511627777) : cutF v 1099511627777 = v := by unfold cutF mx mn; omega
theorem may_eq {h soft g c B N S now : Int} (hc0 : 0 ≤ c) (hc1 : c ≤ 1000) (hS0 : 0 ≤ S) (hS1 : S ≤ 1001) :
    quota_May.f 0 h soft 9 9 g 0 B N S 0 c now 1 = some (sideMay g c h soft B S now) := by
  unfold quota_May.f
  rw [cut_id hc0 (by omega), cut_id hS0 (by omega), cut_id (v := 0) (by omega) (by omega)]
  have : sideMay g c 9 9 N 0 1 = true := by unfold sideMay; simp
  rw [this, Bool.and_true]
theorem next_eq {h soft g c B N S now : Int} (hc0 : 0 ≤ c) (hc1 : c ≤ 1000) (hS0 : 0 ≤ S) (hS1 : S ≤ 1001) :
    quota_Next.f 0 h soft 9 9 g 0 B N S 0 c now 1 = some (now, 1, sideSince c soft S now, 0) := by
  unfold quota_Next.f
  rw [cut_id hc0 (by omega), cut_id hS0 (by omega), cut_id (v := 0) (by omega) (by omega)]
  have : sideSince c 9 0 1 = 0 := by unfold sideSince; simp
  rw [this]

structure Inv (h soft g c above i B N S : Int) : Prop where
  h0 : 0 ≤ h
  h1 : h < 50
  s0 : 0 ≤ soft
  s1 : soft ≤ h
  g0 : 0 ≤ g
  g1 : g < 20
  c0 : 0 ≤ c
  c1 : c ≤ 3 * i
  a0 : -1 ≤ above
  a1 : above ≤ c
  b0 : 0 ≤ B
  b1 : B ≤ h
  e : S = above + 1

/-- What the statement wants is what the program says. -/
theorem want_may {h soft g c above i B N S now : Int} (I : Inv h soft g c above i B N S) :
    sideMay g c h soft B S now = decide (now ≤ B ∨ now ≤ soft ∨ now ≤ h ∧ 0 < g ∧ (above < 0 ∨ c - above < g)) := by
  have := I.s1; have := I.a0; have := I.e
  unfold sideMay
  rw [Bool.eq_iff_iff]
  simp only [Bool.or_eq_true, Bool.and_eq_true, decide_eq_true_eq, beq_iff_eq]
  constructor
  · rintro (h1 | ⟨h1, h2 | ⟨h2, h3 | h3⟩⟩)
    · exact .inl h1
    · exact .inr (.inl h2)
    · exact .inr (.inr ⟨h1, h2, .inl (by omega)⟩)
    · exact .inr (.inr ⟨h1, h2, .inr (by omega)⟩)
  · rintro (h1 | h1 | ⟨h1, h2, h3 | h3⟩)
    · exact .inl h1
    · exact .inr ⟨by omega, .inl h1⟩
    · exact .inr ⟨h1, .inr ⟨h2, .inl (by omega)⟩⟩
    · exact .inr ⟨h1, .inr ⟨h2, .inr (by omega)⟩⟩

theorem loop (l : List Int) (d : Nat) : ∀ (h soft g c above i B N S : Int), Inv h soft g c above i B N S → 0 ≤ i → 100 - i = d →
    ∃ K, ∀ k, K ≤ k → beguinagelaw22_QuotaGrace.l0 k l h c above i 0 h soft 9 9 g 0 B N S 0 = some true := by
  induction d with
  | zero =>
    intro h soft g c above i B N S I hi hd
    refine ⟨2, fun k hk => ?_⟩
    obtain ⟨k, rfl⟩ : ∃ m, k = m + 1 + 1 := ⟨k - 2, by omega⟩
    have e : beguinagelaw22_QuotaGrace.j1 (k + 1) l h c above i false 0 h soft 9 9 g 0 B N S 0 = some true := by
      rw [beguinagelaw22_QuotaGrace.j1, if_neg (by simp), awake_true]; rfl
    rw [beguinagelaw22_QuotaGrace.l0, decide_eq_false (by omega)]
    split <;> exact e
  | succ d ih =>
    intro h soft g c above i B N S I hi hd
    by_cases hlt : i < (l.length : Int)
    · have hw : wrap64 (i + 1) = i + 1 := w64 (by omega) (by omega)
      have t0 := Int.emod_nonneg (rd l i) (show (1048576 : Int) ≠ 0 by omega)
      have t1 := Int.emod_lt_of_pos (rd l i) (show (0 : Int) < 1048576 by omega)
      have hp := q_place (rd l i) (n := 1048576) (by omega) (by omega)
      generalize rd l i % 1048576 = t at *
      have ec : wrap64 (c + Int.tmod t 4) = c + t % 4 := by
        rw [tmod_pos' 4 t0]; have := I.c0; have := I.c1; exact w64 (by omega) (by omega)
      have eb : wrap64 (wrap64 (B + Int.tmod (wrap64 (Int.tdiv t 4)) 9) - 4) = B + t / 4 % 9 - 4 := by
        have := I.b0; have := I.b1; have := I.h1
        rw [tdiv_pos' 4 t0, w64 (x := t / 4) (by omega) (by omega), tmod_pos' 9 (by omega), w64 (x := B + t / 4 % 9) (by omega) (by omega)]
        exact w64 (by omega) (by omega)
      obtain ⟨now, hnow⟩ : ∃ now, B + t / 4 % 9 - 4 = now := ⟨_, rfl⟩
      obtain ⟨c', hc'⟩ : ∃ c', c + t % 4 = c' := ⟨_, rfl⟩
      have I' : Inv h soft g c' above (i + 1) B N S := ⟨I.h0, I.h1, I.s0, I.s1, I.g0, I.g1, by have := I.c0; omega, by have := I.c1; omega, I.a0, by have := I.a1; omega, I.b0, I.b1, I.e⟩
      have hc0 := I'.c0; have hc1 := I'.c1; have ha0 := I'.a0; have ha1 := I'.a1; have hE := I'.e
      obtain ⟨K, hk⟩ := ih h soft g c' above (i + 1) B N S I' (by omega) (by omega)
      -- the round behind the test
      have hj2 : ∃ K2, ∀ k, K2 ≤ k → 0 ≤ now → beguinagelaw22_QuotaGrace.j2 k l h c' above i now (sideMay g c' h soft B S now) 0 h soft 9 9 g 0 B N S 0 = some true := by
        have hm := may_eq (h := h) (soft := soft) (g := g) (c := c') (B := B) (N := N) (S := S) (now := now) hc0 (by omega) (by omega) (by omega)
        have hn := next_eq (h := h) (soft := soft) (g := g) (c := c') (B := B) (N := N) (S := S) (now := now) hc0 (by omega) (by omega) (by omega)
        have hwant := want_may (now := now) I'
        by_cases hW : now ≤ B ∨ now ≤ soft ∨ now ≤ h ∧ 0 < g ∧ (above < 0 ∨ c' - above < g)
        · rw [decide_eq_true hW] at hwant
          have hnh : now ≤ h := by
            have := I.b1; have := I.s1
            rcases hW with h1 | h1 | ⟨h1, _⟩ <;> omega
          have key : ∀ k, beguinagelaw22_QuotaGrace.j2 (k + 1) l h c' above i now true 0 h soft 9 9 g 0 B N S 0 =
              beguinagelaw22_QuotaGrace.l0 k l h c' (if now ≤ soft then -1 else if above < 0 then c' else above) (i + 1) 0 h soft 9 9 g 0 now 1 (sideSince c' soft S now) 0 ∨ now < 0 := by
            intro k
            left
            rw [beguinagelaw22_QuotaGrace.j2, hm, hwant]
            simp only [Option.bind_some]
            rw [if_neg (by simp)]
            simp only [if_true]
            rw [hn]
            simp only [Option.bind_some, hw, if_true]
            by_cases q1 : now ≤ soft
            · rw [if_pos q1, if_pos q1, if_neg (by omega), if_pos (by unfold sideSince; rw [if_pos q1])]
            · rw [if_neg q1, if_neg q1]
              by_cases q2 : above < 0
              · rw [if_pos q2, if_pos q2, if_neg (by omega), if_pos (by unfold sideSince; rw [if_neg q1, if_pos (by omega), w64 (by omega) (by omega)]; unfold mn; omega)]
              · rw [if_neg q2, if_neg q2, if_neg (by omega), if_pos (by unfold sideSince; rw [if_neg q1, if_neg (by omega), w64 (by omega) (by omega)]; exact hE)]
          rw [hwant]
          by_cases hpos : 0 ≤ now
          · have J : Inv h soft g c' (if now ≤ soft then -1 else if above < 0 then c' else above) (i + 1) now 1 (sideSince c' soft S now) := by
              refine ⟨I.h0, I.h1, I.s0, I.s1, I.g0, I.g1, hc0, hc1, ?_, ?_, hpos, hnh, ?_⟩
              · split
                · omega
                · split <;> omega
              · split
                · omega
                · split <;> omega
              · unfold sideSince
                by_cases q1 : now ≤ soft
                · rw [if_pos q1, if_pos q1]; rfl
                · rw [if_neg q1, if_neg q1]
                  by_cases q2 : above < 0
                  · rw [if_pos q2, if_pos (by omega)]; unfold mn; omega
                  · rw [if_neg q2, if_neg (by omega)]; exact hE
            obtain ⟨K3, hk3⟩ := ih _ _ _ _ _ _ _ _ _ J (by omega) (by omega)
            refine ⟨K3 + 1, fun k hkk _ => ?_⟩
            obtain ⟨k, rfl⟩ : ∃ m, k = m + 1 := ⟨k - 1, by omega⟩
            rcases key k with h1 | h1
            · rw [h1]; exact hk3 k (by omega)
            · omega
          · exact ⟨0, fun k _ h0 => absurd h0 hpos⟩
        · rw [decide_eq_false hW] at hwant
          rw [hwant]
          refine ⟨K + 1, fun k hkk _ => ?_⟩
          obtain ⟨k, rfl⟩ : ∃ m, k = m + 1 := ⟨k - 1, by omega⟩
          rw [beguinagelaw22_QuotaGrace.j2, hm, hwant]
          simp only [Option.bind_some]
          rw [if_neg (by simp), if_neg (by simp), hw]
          exact hk k (by omega)
      obtain ⟨K2, hk2⟩ := hj2
      have hwant := want_may (now := now) I'
      refine ⟨K + K2 + 2, fun k hkk => ?_⟩
      obtain ⟨k, rfl⟩ : ∃ m, k = m + 1 + 1 := ⟨k - 2, by omega⟩
      rw [beguinagelaw22_QuotaGrace.l0, if_pos hlt, decide_eq_true (by omega), beguinagelaw22_QuotaGrace.j1, if_pos rfl, if_pos hi, if_pos hlt, hp]
      simp only [Option.bind_some, ec, eb, hnow, hc', hw]
      by_cases q0 : now < 0
      · rw [if_pos q0]; exact hk k (by omega)
      · rw [if_neg q0]
        have hfin := hk2 k (by omega) (by omega)
        rw [hwant] at hfin
        by_cases q1 : now ≤ B
        · rw [if_pos q1]; rw [decide_eq_true (.inl q1)] at hfin; exact hfin
        · rw [if_neg q1]
          by_cases q2 : now ≤ soft
          · rw [if_pos q2]; rw [decide_eq_true (.inr (.inl q2))] at hfin; exact hfin
          · rw [if_neg q2]
            by_cases q3 : now ≤ h
            · rw [if_pos q3]
              by_cases q4 : g > 0
              · rw [if_pos q4]
                by_cases q5 : above < 0
                · rw [if_pos q5]; rw [decide_eq_true (.inr (.inr ⟨q3, q4, .inl q5⟩))] at hfin; exact hfin
                · rw [if_neg q5, w64 (x := c' - above) (by omega) (by omega)]
                  have : decide (now ≤ B ∨ now ≤ soft ∨ now ≤ h ∧ 0 < g ∧ (above < 0 ∨ c' - above < g)) = decide (c' - above < g) := by
                    rw [decide_eq_decide]
                    exact ⟨fun h9 => by omega, fun h9 => .inr (.inr ⟨q3, q4, .inr h9⟩)⟩
                  rw [this] at hfin; exact hfin
              · rw [if_neg q4]; rw [decide_eq_false (by omega)] at hfin; exact hfin
            · rw [if_neg q3]; rw [decide_eq_false (by omega)] at hfin; exact hfin
    · refine ⟨2, fun k hk => ?_⟩
      obtain ⟨k, rfl⟩ : ∃ m, k = m + 1 + 1 := ⟨k - 2, by omega⟩
      rw [beguinagelaw22_QuotaGrace.l0, if_neg hlt, beguinagelaw22_QuotaGrace.j1, if_neg (by simp), awake_true]; rfl
end Qg

theorem QuotaGrace : beguinagelaw22_QuotaGrace.Pure := by
  intro a0 a1 a2 l w0 w1 w2 _ _ _
  have b0 := Int.emod_nonneg a0 (show (50 : Int) ≠ 0 by omega)
  have b1 := Int.emod_lt_of_pos a0 (show (0 : Int) < 50 by omega)
  have b4 := Int.emod_nonneg a2 (show (20 : Int) ≠ 0 by omega)
  have b5 := Int.emod_lt_of_pos a2 (show (0 : Int) < 20 by omega)
  have b2 := Int.emod_nonneg a1 (show a0 % 50 + 1 ≠ 0 by omega)
  have b3 := Int.emod_lt_of_pos a1 (show (0 : Int) < a0 % 50 + 1 by omega)
  obtain ⟨K, hk⟩ := Qg.loop l 100 (a0 % 50) (a1 % (a0 % 50 + 1)) (a2 % 20) 0 (-1) 0 0 0 0 ⟨b0, b1, b2, by omega, b4, b5, by omega, by omega, by omega, by omega, by omega, b0, rfl⟩ (by omega) (by omega)
  refine ⟨K, ?_⟩
  unfold beguinagelaw22_QuotaGrace.f
  rw [q_place a0 (by omega) (by omega)]
  simp only [Option.bind_some]
  rw [w64 (x := a0 % 50 + 1) (by omega) (by omega), q_place a1 (by omega) (by omega), q_place a2 (by omega) (by omega)]
  simp only [Option.bind_some]
  exact hk K (Nat.le_refl _)
end Go.Proofs.Ytmjkkkllmpagpaa.Pure
