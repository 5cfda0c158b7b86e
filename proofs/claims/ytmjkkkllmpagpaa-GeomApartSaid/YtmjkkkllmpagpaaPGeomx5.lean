-- Written by wip/pr.py, a program of this session's own that drives the kit's printer: not a text of print.sh.
import Derived.Test.YtmjkkkllmpagpaaPGeomx0
namespace Go.Proofs.Ytmjkkkllmpagpaa.PGeom
open Go.RowKit Go.Proofs.YtmjkkkllmpagpaaW.PrintWords Go.Proofs.YtmjkkkllmpagpaaW.PrintLast Go.Proofs.YtmjkkkllmpagpaaW.PrintMore
attribute [local go_sem] max2_int min2_int max_two min_two max_three min_three max_four min_four   -- for this text's walks alone
set_option linter.unusedVariables false
set_option linter.unusedSimpArgs false

/-! ### geom_SlotAt: function 18 -/
def geom_SlotAt.f (a0 : Int) (a1 : Int) : Option (Int) := if a0 < 1 then (some 0) else (if a0 > 16 then (some 0) else (if a1 < 0 then (some 0) else (if a1 > 1 then (some 0) else (some (wrap64 ((wrap64 (16 + (wrap64 (2 * (wrap64 (a0 - 1)))))) + a1))))))
set_option maxHeartbeats 8000000 in
set_option maxRecDepth 100000 in
theorem geom_SlotAt.calls (a0 : Int) (a1 : Int) (r : Int) (w : World) (h : geom_SlotAt.f a0 a1 = some r) :
    Calls Try.prog 18 #[.int .i64 a0, .int .i64 a1] w fun e w' => e = .returned (.int .i64 r) ∧ Drawn0 w w' := by
  have H : (if a0 < 1 then (some 0) else (if a0 > 16 then (some 0) else (if a1 < 0 then (some 0) else (if a1 > 1 then (some 0) else (some (wrap64 ((wrap64 (16 + (wrap64 (2 * (wrap64 (a0 - 1)))))) + a1))))))) = some r := h
  clear h
  by_cases c3 : a0 < 1
  · rw [if_pos c3] at H
    have c3b0 : decide (a0 < 1) = true := decide_eq_true c3
    clear c3
    obtain rfl := Option.some.inj H
    go_enter Try.func18, Try.ntmps18
    go_wp2
    go_ret
    exact ⟨by first | rfl | (simp; done) | (simp [*]; done), by repeat (first | exact Drawn0.refl _ | apply Drawn0.step)⟩
  · rw [if_neg c3] at H
    have c3b0 : decide (a0 < 1) = false := decide_eq_false c3
    clear c3
    by_cases c4 : a0 > 16
    · rw [if_pos c4] at H
      have c4b0 : decide (16 < a0) = true := decide_eq_true c4
      clear c4
      obtain rfl := Option.some.inj H
      go_enter Try.func18, Try.ntmps18
      go_wp2
      go_ret
      exact ⟨by first | rfl | (simp; done) | (simp [*]; done), by repeat (first | exact Drawn0.refl _ | apply Drawn0.step)⟩
    · rw [if_neg c4] at H
      have c4b0 : decide (16 < a0) = false := decide_eq_false c4
      clear c4
      by_cases c5 : a1 < 0
      · rw [if_pos c5] at H
        have c5b0 : decide (a1 < 0) = true := decide_eq_true c5
        clear c5
        obtain rfl := Option.some.inj H
        go_enter Try.func18, Try.ntmps18
        go_wp2
        go_ret
        exact ⟨by first | rfl | (simp; done) | (simp [*]; done), by repeat (first | exact Drawn0.refl _ | apply Drawn0.step)⟩
      · rw [if_neg c5] at H
        have c5b0 : decide (a1 < 0) = false := decide_eq_false c5
        clear c5
        by_cases c6 : a1 > 1
        · rw [if_pos c6] at H
          have c6b0 : decide (1 < a1) = true := decide_eq_true c6
          clear c6
          obtain rfl := Option.some.inj H
          go_enter Try.func18, Try.ntmps18
          go_wp2
          go_ret
          exact ⟨by first | rfl | (simp; done) | (simp [*]; done), by repeat (first | exact Drawn0.refl _ | apply Drawn0.step)⟩
        · rw [if_neg c6] at H
          have c6b0 : decide (1 < a1) = false := decide_eq_false c6
          clear c6
          obtain rfl := Option.some.inj H
          go_enter Try.func18, Try.ntmps18
          go_wp2
          go_ret
          exact ⟨by first | rfl | (simp; done) | (simp [*]; done), by repeat (first | exact Drawn0.refl _ | apply Drawn0.step)⟩

end Go.Proofs.Ytmjkkkllmpagpaa.PGeom
