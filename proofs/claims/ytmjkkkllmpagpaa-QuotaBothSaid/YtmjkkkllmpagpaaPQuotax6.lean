-- Written by wip/pr.py, a program of this session's own that drives the kit's printer: not a text of print.sh.
import Derived.Test.YtmjkkkllmpagpaaPQuotax0
namespace Go.Proofs.Ytmjkkkllmpagpaa.PQuota
open Go.RowKit Go.Proofs.YtmjkkkllmpagpaaW.PrintWords Go.Proofs.YtmjkkkllmpagpaaW.PrintLast Go.Proofs.YtmjkkkllmpagpaaW.PrintMore
attribute [local go_sem] max2_int min2_int max_two min_two max_three min_three max_four min_four   -- for this text's walks alone
set_option linter.unusedVariables false
set_option linter.unusedSimpArgs false

/-! ### beguinageref22_one: function 39 -/
def beguinageref22_one.f (a0 : Int) (a1 : Int) (a2 : Int) (a3 : Int) (a4 : Int) (a5 : Int) (a6 : Int) : Option (Bool) := if a6 ≤ a3 then (some true) else (if a6 > a0 then (some false) else (if a6 ≤ a1 then (some true) else (if a2 > 0 then (if a4 = 0 then (some true) else (some (decide ((wrap64 (a5 - (wrap64 (a4 - 1)))) < a2)))) else (some false))))
set_option maxHeartbeats 8000000 in
set_option maxRecDepth 100000 in
theorem beguinageref22_one.calls (a0 : Int) (a1 : Int) (a2 : Int) (a3 : Int) (a4 : Int) (a5 : Int) (a6 : Int) (r : Bool) (w : World) (h : beguinageref22_one.f a0 a1 a2 a3 a4 a5 a6 = some r) :
    Calls Try.prog 39 #[.int .i64 a0, .int .i64 a1, .int .i64 a2, .int .i64 a3, .int .i64 a4, .int .i64 a5, .int .i64 a6] w fun e w' => e = .returned (.bool r) ∧ Drawn0 w w' := by
  have H : (if a6 ≤ a3 then (some true) else (if a6 > a0 then (some false) else (if a6 ≤ a1 then (some true) else (if a2 > 0 then (if a4 = 0 then (some true) else (some (decide ((wrap64 (a5 - (wrap64 (a4 - 1)))) < a2)))) else (some false))))) = some r := h
  clear h
  by_cases c8 : a6 ≤ a3
  · rw [if_pos c8] at H
    have c8b0 : decide (a6 ≤ a3) = true := decide_eq_true c8
    clear c8
    obtain rfl := Option.some.inj H
    go_enter Try.func39, Try.ntmps39
    go_wp2
    go_ret
    exact ⟨by first | rfl | (simp; done) | (simp [*]; done), by repeat (first | exact Drawn0.refl _ | apply Drawn0.step)⟩
  · rw [if_neg c8] at H
    have c8b0 : decide (a6 ≤ a3) = false := decide_eq_false c8
    clear c8
    by_cases c9 : a6 > a0
    · rw [if_pos c9] at H
      have c9b0 : decide (a0 < a6) = true := decide_eq_true c9
      clear c9
      obtain rfl := Option.some.inj H
      go_enter Try.func39, Try.ntmps39
      go_wp2
      go_ret
      exact ⟨by first | rfl | (simp; done) | (simp [*]; done), by repeat (first | exact Drawn0.refl _ | apply Drawn0.step)⟩
    · rw [if_neg c9] at H
      have c9b0 : decide (a0 < a6) = false := decide_eq_false c9
      clear c9
      by_cases c10 : a6 ≤ a1
      · rw [if_pos c10] at H
        have c10b0 : decide (a6 ≤ a1) = true := decide_eq_true c10
        clear c10
        obtain rfl := Option.some.inj H
        go_enter Try.func39, Try.ntmps39
        go_wp2
        go_ret
        exact ⟨by first | rfl | (simp; done) | (simp [*]; done), by repeat (first | exact Drawn0.refl _ | apply Drawn0.step)⟩
      · rw [if_neg c10] at H
        have c10b0 : decide (a6 ≤ a1) = false := decide_eq_false c10
        clear c10
        by_cases c11 : a2 > 0
        · rw [if_pos c11] at H
          have c11b0 : decide (0 < a2) = true := decide_eq_true c11
          clear c11
          by_cases c12 : a4 = 0
          · rw [if_pos c12] at H
            have c12b0 : (a4 == 0) = true := beq_iff_eq.mpr c12
            have c12b1 : (a4 != 0) = false := bne_eq_false_iff_eq.mpr c12
            clear c12
            obtain rfl := Option.some.inj H
            go_enter Try.func39, Try.ntmps39
            go_wp2
            go_ret
            exact ⟨by first | rfl | (simp; done) | (simp [*]; done), by repeat (first | exact Drawn0.refl _ | apply Drawn0.step)⟩
          · rw [if_neg c12] at H
            have c12b0 : (a4 == 0) = false := beq_eq_false_iff_ne.mpr c12
            have c12b1 : (a4 != 0) = true := bne_iff_ne.mpr c12
            obtain rfl := Option.some.inj H
            go_enter Try.func39, Try.ntmps39
            go_wp2
            go_ret
            exact ⟨by first | rfl | (simp; done) | (simp [*]; done), by repeat (first | exact Drawn0.refl _ | apply Drawn0.step)⟩
        · rw [if_neg c11] at H
          have c11b0 : decide (0 < a2) = false := decide_eq_false c11
          clear c11
          obtain rfl := Option.some.inj H
          go_enter Try.func39, Try.ntmps39
          go_wp2
          go_ret
          exact ⟨by first | rfl | (simp; done) | (simp [*]; done), by repeat (first | exact Drawn0.refl _ | apply Drawn0.step)⟩

end Go.Proofs.Ytmjkkkllmpagpaa.PQuota
