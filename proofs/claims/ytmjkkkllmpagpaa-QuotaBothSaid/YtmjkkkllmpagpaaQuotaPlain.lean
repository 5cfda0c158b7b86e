/- Plain lemmas on what the quota's functions and the reference's answer: the reference's 'one' and 'since' are the program's side, at cut clocks. No memory is in sight. -/
import Derived.Test.YtmjkkkllmpagpaaQuotaGiven
import Derived.Test.YtmjkkkllmpagpaaPQuotax8
import Derived.Test.YtmjkkkllmpagpaaPQuotax10
import Derived.Test.YtmjkkkllmpagpaaPQuotax3
import Derived.Test.YtmjkkkllmpagpaaPQuotax4
import Derived.Test.YtmjkkkllmpagpaaPQuotax6
import Derived.Test.YtmjkkkllmpagpaaAid
namespace Go.Proofs.Ytmjkkkllmpagpaa.PQuota
open Go.RowKit Go.Proofs.YtmjkkkllmpagpaaW.PrintWords Go.Proofs.YtmjkkkllmpagpaaW.PrintLast
open Go.Proofs.Ytmjkkkllmpagpaa.Aid
set_option linter.unusedVariables false
set_option linter.unusedSimpArgs false

theorem q_place (a : Int) {n : Int} (h0 : 0 < n) (h1 : n ≤ 9223372036854775807) : beguinagelaw00_Place.f a n = some (a % n) := place a h0 h1
theorem awake_true : beguinagelaw22_awake.f = some true := by decide +kernel
theorem rcut (a : Int) : beguinageref22_cut.f a = some (cutF a 1099511627777) := by
  unfold beguinageref22_cut.f
  congr 1
  unfold cutF mx mn; omega
theorem rone {g c hard soft was s now : Int} (hs0 : 0 ≤ s) (hs1 : s ≤ 1099511627777) (hc0 : 0 ≤ c) (hc1 : c ≤ 1099511627777) :
    beguinageref22_one.f hard soft g was s c now = some (sideMay g c hard soft was s now) := by
  unfold beguinageref22_one.f sideMay
  rw [w64 (x := s - 1) (by omega) (by omega), w64 (x := c - (s - 1)) (by omega) (by omega)]
  by_cases h1 : now ≤ was
  · rw [if_pos h1, decide_eq_true h1]; rfl
  · rw [if_neg h1, decide_eq_false h1]
    by_cases h2 : now > hard
    · rw [if_pos h2, decide_eq_false (show ¬ now ≤ hard by omega)]; rfl
    · rw [if_neg h2, decide_eq_true (show now ≤ hard by omega)]
      by_cases h3 : now ≤ soft
      · rw [if_pos h3, decide_eq_true h3]; rfl
      · rw [if_neg h3, decide_eq_false h3]
        by_cases h4 : g > 0
        · rw [if_pos h4, decide_eq_true (show 0 < g from h4)]
          by_cases h5 : s = 0
          · rw [if_pos h5, h5]; rfl
          · rw [if_neg h5, beq_eq_false_iff_ne.mpr h5]; rfl
        · rw [if_neg h4, decide_eq_false (show ¬ 0 < g from h4)]; rfl
theorem rsince {c soft s now : Int} (hc0 : 0 ≤ c) : beguinageref22_since.f soft s (mn c 1099511627776) now = some (sideSince c soft s now) := by
  unfold beguinageref22_since.f sideSince
  have h : 0 ≤ mn c 1099511627776 ∧ mn c 1099511627776 ≤ 1099511627776 := by unfold mn; omega
  rw [w64 (x := mn c 1099511627776 + 1) (by omega) (by omega)]
  by_cases h1 : now ≤ soft
  · rw [if_pos h1, if_pos h1]
  · rw [if_neg h1, if_neg h1]
    by_cases h2 : s = 0
    · rw [if_pos h2, if_pos h2]
    · rw [if_neg h2, if_neg h2]
theorem since_zero {c soft s now : Int} (hc0 : 0 ≤ c) : sideSince c soft s now = 0 ↔ now ≤ soft := by
  unfold sideSince
  have h : 0 ≤ mn c 1099511627776 := by unfold mn; omega
  by_cases h1 : now ≤ soft
  · rw [if_pos h1]; exact ⟨fun _ => h1, fun _ => rfl⟩
  · rw [if_neg h1]
    by_cases h2 : s = 0
    · rw [if_pos h2]; exact ⟨fun h => by omega, fun h => absurd h h1⟩
    · rw [if_neg h2]; exact ⟨fun h => absurd h h2, fun h => absurd h h1⟩
theorem may_less {g c hard soft was s now : Int} (h : now ≤ was) : sideMay g c hard soft was s now = true := by
  unfold sideMay; rw [decide_eq_true h]; rfl
end Go.Proofs.Ytmjkkkllmpagpaa.PQuota
