/- The contract of the function literal that quota.side hands back: what it answers, by the bounds' Grace and the clock that it caught. Conditions: these two lie in memory, and the clock is one that was cut. -/
import Derived.Test.YtmjkkkllmpagpaaPQuotax0
namespace Go.Proofs.Ytmjkkkllmpagpaa.PQuota
open Go.RowKit Go.Proofs.YtmjkkkllmpagpaaW.PrintWords Go.Proofs.YtmjkkkllmpagpaaW.PrintLast Go.Proofs.YtmjkkkllmpagpaaW.PrintMore
attribute [local go_sem] max2_int min2_int max_two min_two
set_option linter.unusedVariables false
set_option linter.unusedSimpArgs false

def cutF (v most : Int) : Int := mx 0 (mn v most)
theorem cutF_bd (v : Int) : 0 ≤ cutF v 1099511627777 ∧ cutF v 1099511627777 ≤ 1099511627777 := by unfold cutF mx mn; omega

def sideMay (g c hard soft was s now : Int) : Bool :=
  decide (now ≤ was) || (decide (now ≤ hard) && (decide (now ≤ soft) || (decide (0 < g) && (s == 0 || decide (c - (s - 1) < g)))))
def sideSince (c soft s now : Int) : Int := if now ≤ soft then 0 else if s = 0 then mn c 1099511627776 + 1 else s

theorem cut_same (v m : Int) (w : World) : Calls Try.prog 40 #[.int .i64 v, .int .i64 m] w fun e w' => e = .returned (.int .i64 (cutF v m)) ∧ w = w' := by
  obtain ⟨j1, h1⟩ : ∃ j_ : Int, (mn v m) = j_ := ⟨_, rfl⟩
  have h1_ : (if m < v then m else v) = j1 := h1
  obtain ⟨j2, h2⟩ : ∃ j_ : Int, (mx 0 j1) = j_ := ⟨_, rfl⟩
  have h2_ : (if 0 < j1 then j1 else 0) = j2 := h2
  have h3 : cutF v m = j2 := by unfold cutF; rw [h1, h2]
  rw [h3]
  clear h1 h2 h3
  go_enter Try.func40, Try.ntmps40
  go_wp2
  go_ret
  exact ⟨rfl, rfl⟩

theorem end2 {b b' : Bool} {n n' : Int} (h : b = b') (k : n = n') : Ending.returned (.tuple #[.bool b, .int .i64 n]) = .returned (.tuple #[.bool b', .int .i64 n']) := by rw [h, k]
theorem drawn_step {w w' : World} {m : Nat} (h : ∃ n, w' = w.drewN n) : ∃ n, w'.drewN m = w.drewN n := by
  obtain ⟨n, rfl⟩ := h
  exact ⟨n + m, World.drewN_drewN ..⟩


set_option maxHeartbeats 4000000 in
set_option maxRecDepth 100000 in
theorem side_calls (g c hard soft was since now s : Int) (pl pc : Nat) (w : World) (hs : Aside0 (cutF since 1099511627777 = s)) (hs0 : 0 ≤ s) (hs1 : s ≤ 1099511627777) (hc0 : 0 ≤ c) (hc1 : c ≤ 1099511627777)
    (hl : w.cell? ⟨pl, 5, none⟩ = some (.int .i64 g)) (hc : w.cell? ⟨pc, 0, none⟩ = some (.int .i64 c)) :
    Calls Try.prog 41 #[.int .i64 hard, .int .i64 soft, .int .i64 was, .int .i64 since, .int .i64 now, .pointer (some ⟨pl, 0, none⟩), .pointer (some ⟨pc, 0, none⟩)] w
      fun e w' => e = .returned (.tuple #[.bool (sideMay g c hard soft was s now), .int .i64 (sideSince c soft s now)]) ∧ ∃ n, w' = w.drewN n := by
  obtain ⟨m, hm0⟩ : ∃ m : Int, mn c 1099511627776 = m := ⟨_, rfl⟩
  have hm1 : (if 1099511627776 < c then 1099511627776 else c) = m := hm0
  have hm2 : 0 ≤ m := by rw [← hm1]; split <;> omega
  have hm3 : m ≤ 1099511627776 := by rw [← hm1]; split <;> omega
  have hm := Aside0.mk hm0
  clear hm0
  by_cases c6 : now ≤ soft
  · have c6b : decide (now ≤ soft) = true := decide_eq_true c6
    by_cases c1 : 0 < g
    · have c1b : decide (0 < g) = true := decide_eq_true c1
      by_cases c2 : s = 0
      · have c2b : (s == 0) = true := beq_iff_eq.mpr c2
        by_cases c4 : now ≤ was
        · have c4b : decide (now ≤ was) = true := decide_eq_true c4
          clear c6 c1 c2 c4
          go_enter Try.func41, Try.ntmps41
          go_wp2_with (go_at_call 40; (with_reducible refine (cut_same _ _ _).mono ?_); rintro e w' ⟨rfl, rfl⟩; rw [hs.out])
          go_ret2
          (refine ⟨end2 (by simp [sideMay, c6b, c1b, c2b, c4b]) (by rw [sideSince, if_pos (of_decide_eq_true c6b)]), ?_⟩; first | exact ⟨0, rfl⟩ | exact ⟨1, rfl⟩ | (apply drawn_step; first | exact ⟨0, rfl⟩ | exact ⟨1, rfl⟩))
        · have c4b : decide (now ≤ was) = false := decide_eq_false c4
          by_cases c5 : now ≤ hard
          · have c5b : decide (now ≤ hard) = true := decide_eq_true c5
            clear c6 c1 c2 c4 c5
            go_enter Try.func41, Try.ntmps41
            go_wp2_with (go_at_call 40; (with_reducible refine (cut_same _ _ _).mono ?_); rintro e w' ⟨rfl, rfl⟩; rw [hs.out])
            go_ret2
            (refine ⟨end2 (by simp [sideMay, c6b, c1b, c2b, c4b, c5b]) (by rw [sideSince, if_pos (of_decide_eq_true c6b)]), ?_⟩; first | exact ⟨0, rfl⟩ | exact ⟨1, rfl⟩ | (apply drawn_step; first | exact ⟨0, rfl⟩ | exact ⟨1, rfl⟩))
          · have c5b : decide (now ≤ hard) = false := decide_eq_false c5
            clear c6 c1 c2 c4 c5
            go_enter Try.func41, Try.ntmps41
            go_wp2_with (go_at_call 40; (with_reducible refine (cut_same _ _ _).mono ?_); rintro e w' ⟨rfl, rfl⟩; rw [hs.out])
            go_ret2
            (refine ⟨end2 (by simp [sideMay, c6b, c1b, c2b, c4b, c5b]) (by rw [sideSince, if_pos (of_decide_eq_true c6b)]), ?_⟩; first | exact ⟨0, rfl⟩ | exact ⟨1, rfl⟩ | (apply drawn_step; first | exact ⟨0, rfl⟩ | exact ⟨1, rfl⟩))
      · have c2b : (s == 0) = false := beq_eq_false_iff_ne.mpr c2
        by_cases c3 : c - (s - 1) < g
        · have c3b : decide (c - (s - 1) < g) = true := decide_eq_true c3
          by_cases c4 : now ≤ was
          · have c4b : decide (now ≤ was) = true := decide_eq_true c4
            clear c6 c1 c2 c3 c4
            go_enter Try.func41, Try.ntmps41
            go_wp2_with (go_at_call 40; (with_reducible refine (cut_same _ _ _).mono ?_); rintro e w' ⟨rfl, rfl⟩; rw [hs.out])
            go_ret2
            (refine ⟨end2 (by simp [sideMay, c6b, c1b, c2b, c3b, c4b]) (by rw [sideSince, if_pos (of_decide_eq_true c6b)]), ?_⟩; first | exact ⟨0, rfl⟩ | exact ⟨1, rfl⟩ | (apply drawn_step; first | exact ⟨0, rfl⟩ | exact ⟨1, rfl⟩))
          · have c4b : decide (now ≤ was) = false := decide_eq_false c4
            by_cases c5 : now ≤ hard
            · have c5b : decide (now ≤ hard) = true := decide_eq_true c5
              clear c6 c1 c2 c3 c4 c5
              go_enter Try.func41, Try.ntmps41
              go_wp2_with (go_at_call 40; (with_reducible refine (cut_same _ _ _).mono ?_); rintro e w' ⟨rfl, rfl⟩; rw [hs.out])
              go_ret2
              (refine ⟨end2 (by simp [sideMay, c6b, c1b, c2b, c3b, c4b, c5b]) (by rw [sideSince, if_pos (of_decide_eq_true c6b)]), ?_⟩; first | exact ⟨0, rfl⟩ | exact ⟨1, rfl⟩ | (apply drawn_step; first | exact ⟨0, rfl⟩ | exact ⟨1, rfl⟩))
            · have c5b : decide (now ≤ hard) = false := decide_eq_false c5
              clear c6 c1 c2 c3 c4 c5
              go_enter Try.func41, Try.ntmps41
              go_wp2_with (go_at_call 40; (with_reducible refine (cut_same _ _ _).mono ?_); rintro e w' ⟨rfl, rfl⟩; rw [hs.out])
              go_ret2
              (refine ⟨end2 (by simp [sideMay, c6b, c1b, c2b, c3b, c4b, c5b]) (by rw [sideSince, if_pos (of_decide_eq_true c6b)]), ?_⟩; first | exact ⟨0, rfl⟩ | exact ⟨1, rfl⟩ | (apply drawn_step; first | exact ⟨0, rfl⟩ | exact ⟨1, rfl⟩))
        · have c3b : decide (c - (s - 1) < g) = false := decide_eq_false c3
          by_cases c4 : now ≤ was
          · have c4b : decide (now ≤ was) = true := decide_eq_true c4
            clear c6 c1 c2 c3 c4
            go_enter Try.func41, Try.ntmps41
            go_wp2_with (go_at_call 40; (with_reducible refine (cut_same _ _ _).mono ?_); rintro e w' ⟨rfl, rfl⟩; rw [hs.out])
            go_ret2
            (refine ⟨end2 (by simp [sideMay, c6b, c1b, c2b, c3b, c4b]) (by rw [sideSince, if_pos (of_decide_eq_true c6b)]), ?_⟩; first | exact ⟨0, rfl⟩ | exact ⟨1, rfl⟩ | (apply drawn_step; first | exact ⟨0, rfl⟩ | exact ⟨1, rfl⟩))
          · have c4b : decide (now ≤ was) = false := decide_eq_false c4
            by_cases c5 : now ≤ hard
            · have c5b : decide (now ≤ hard) = true := decide_eq_true c5
              clear c6 c1 c2 c3 c4 c5
              go_enter Try.func41, Try.ntmps41
              go_wp2_with (go_at_call 40; (with_reducible refine (cut_same _ _ _).mono ?_); rintro e w' ⟨rfl, rfl⟩; rw [hs.out])
              go_ret2
              (refine ⟨end2 (by simp [sideMay, c6b, c1b, c2b, c3b, c4b, c5b]) (by rw [sideSince, if_pos (of_decide_eq_true c6b)]), ?_⟩; first | exact ⟨0, rfl⟩ | exact ⟨1, rfl⟩ | (apply drawn_step; first | exact ⟨0, rfl⟩ | exact ⟨1, rfl⟩))
            · have c5b : decide (now ≤ hard) = false := decide_eq_false c5
              clear c6 c1 c2 c3 c4 c5
              go_enter Try.func41, Try.ntmps41
              go_wp2_with (go_at_call 40; (with_reducible refine (cut_same _ _ _).mono ?_); rintro e w' ⟨rfl, rfl⟩; rw [hs.out])
              go_ret2
              (refine ⟨end2 (by simp [sideMay, c6b, c1b, c2b, c3b, c4b, c5b]) (by rw [sideSince, if_pos (of_decide_eq_true c6b)]), ?_⟩; first | exact ⟨0, rfl⟩ | exact ⟨1, rfl⟩ | (apply drawn_step; first | exact ⟨0, rfl⟩ | exact ⟨1, rfl⟩))
    · have c1b : decide (0 < g) = false := decide_eq_false c1
      by_cases c4 : now ≤ was
      · have c4b : decide (now ≤ was) = true := decide_eq_true c4
        clear c6 c1 c4
        go_enter Try.func41, Try.ntmps41
        go_wp2_with (go_at_call 40; (with_reducible refine (cut_same _ _ _).mono ?_); rintro e w' ⟨rfl, rfl⟩; rw [hs.out])
        go_ret2
        (refine ⟨end2 (by simp [sideMay, c6b, c1b, c4b]) (by rw [sideSince, if_pos (of_decide_eq_true c6b)]), ?_⟩; first | exact ⟨0, rfl⟩ | exact ⟨1, rfl⟩ | (apply drawn_step; first | exact ⟨0, rfl⟩ | exact ⟨1, rfl⟩))
      · have c4b : decide (now ≤ was) = false := decide_eq_false c4
        by_cases c5 : now ≤ hard
        · have c5b : decide (now ≤ hard) = true := decide_eq_true c5
          clear c6 c1 c4 c5
          go_enter Try.func41, Try.ntmps41
          go_wp2_with (go_at_call 40; (with_reducible refine (cut_same _ _ _).mono ?_); rintro e w' ⟨rfl, rfl⟩; rw [hs.out])
          go_ret2
          (refine ⟨end2 (by simp [sideMay, c6b, c1b, c4b, c5b]) (by rw [sideSince, if_pos (of_decide_eq_true c6b)]), ?_⟩; first | exact ⟨0, rfl⟩ | exact ⟨1, rfl⟩ | (apply drawn_step; first | exact ⟨0, rfl⟩ | exact ⟨1, rfl⟩))
        · have c5b : decide (now ≤ hard) = false := decide_eq_false c5
          clear c6 c1 c4 c5
          go_enter Try.func41, Try.ntmps41
          go_wp2_with (go_at_call 40; (with_reducible refine (cut_same _ _ _).mono ?_); rintro e w' ⟨rfl, rfl⟩; rw [hs.out])
          go_ret2
          (refine ⟨end2 (by simp [sideMay, c6b, c1b, c4b, c5b]) (by rw [sideSince, if_pos (of_decide_eq_true c6b)]), ?_⟩; first | exact ⟨0, rfl⟩ | exact ⟨1, rfl⟩ | (apply drawn_step; first | exact ⟨0, rfl⟩ | exact ⟨1, rfl⟩))
  · have c6b : decide (now ≤ soft) = false := decide_eq_false c6
    by_cases c1 : 0 < g
    · have c1b : decide (0 < g) = true := decide_eq_true c1
      by_cases c2 : s = 0
      · have c2b : (s == 0) = true := beq_iff_eq.mpr c2
        by_cases c4 : now ≤ was
        · have c4b : decide (now ≤ was) = true := decide_eq_true c4
          clear c6 c1 c2 c4
          go_enter Try.func41, Try.ntmps41
          go_wp2_with (go_at_call 40; (with_reducible refine (cut_same _ _ _).mono ?_); rintro e w' ⟨rfl, rfl⟩; rw [hs.out])
          all_goals (go_region)
          all_goals (go_wp2)
          all_goals (go_ret2)
          all_goals (refine ⟨end2 (by simp [sideMay, c6b, c1b, c2b, c4b]) (by rw [sideSince, if_neg (of_decide_eq_false c6b), if_pos (beq_iff_eq.mp c2b), hm.out]), ?_⟩; first | exact ⟨0, rfl⟩ | exact ⟨1, rfl⟩ | (apply drawn_step; first | exact ⟨0, rfl⟩ | exact ⟨1, rfl⟩))
        · have c4b : decide (now ≤ was) = false := decide_eq_false c4
          by_cases c5 : now ≤ hard
          · have c5b : decide (now ≤ hard) = true := decide_eq_true c5
            clear c6 c1 c2 c4 c5
            go_enter Try.func41, Try.ntmps41
            go_wp2_with (go_at_call 40; (with_reducible refine (cut_same _ _ _).mono ?_); rintro e w' ⟨rfl, rfl⟩; rw [hs.out])
            all_goals (go_region)
            all_goals (go_wp2)
            all_goals (go_ret2)
            all_goals (refine ⟨end2 (by simp [sideMay, c6b, c1b, c2b, c4b, c5b]) (by rw [sideSince, if_neg (of_decide_eq_false c6b), if_pos (beq_iff_eq.mp c2b), hm.out]), ?_⟩; first | exact ⟨0, rfl⟩ | exact ⟨1, rfl⟩ | (apply drawn_step; first | exact ⟨0, rfl⟩ | exact ⟨1, rfl⟩))
          · have c5b : decide (now ≤ hard) = false := decide_eq_false c5
            clear c6 c1 c2 c4 c5
            go_enter Try.func41, Try.ntmps41
            go_wp2_with (go_at_call 40; (with_reducible refine (cut_same _ _ _).mono ?_); rintro e w' ⟨rfl, rfl⟩; rw [hs.out])
            all_goals (go_region)
            all_goals (go_wp2)
            all_goals (go_ret2)
            all_goals (refine ⟨end2 (by simp [sideMay, c6b, c1b, c2b, c4b, c5b]) (by rw [sideSince, if_neg (of_decide_eq_false c6b), if_pos (beq_iff_eq.mp c2b), hm.out]), ?_⟩; first | exact ⟨0, rfl⟩ | exact ⟨1, rfl⟩ | (apply drawn_step; first | exact ⟨0, rfl⟩ | exact ⟨1, rfl⟩))
      · have c2b : (s == 0) = false := beq_eq_false_iff_ne.mpr c2
        by_cases c3 : c - (s - 1) < g
        · have c3b : decide (c - (s - 1) < g) = true := decide_eq_true c3
          by_cases c4 : now ≤ was
          · have c4b : decide (now ≤ was) = true := decide_eq_true c4
            clear c6 c1 c2 c3 c4
            go_enter Try.func41, Try.ntmps41
            go_wp2_with (go_at_call 40; (with_reducible refine (cut_same _ _ _).mono ?_); rintro e w' ⟨rfl, rfl⟩; rw [hs.out])
            go_ret2
            (refine ⟨end2 (by simp [sideMay, c6b, c1b, c2b, c3b, c4b]) (by rw [sideSince, if_neg (of_decide_eq_false c6b), if_neg (beq_eq_false_iff_ne.mp c2b)]), ?_⟩; first | exact ⟨0, rfl⟩ | exact ⟨1, rfl⟩ | (apply drawn_step; first | exact ⟨0, rfl⟩ | exact ⟨1, rfl⟩))
          · have c4b : decide (now ≤ was) = false := decide_eq_false c4
            by_cases c5 : now ≤ hard
            · have c5b : decide (now ≤ hard) = true := decide_eq_true c5
              clear c6 c1 c2 c3 c4 c5
              go_enter Try.func41, Try.ntmps41
              go_wp2_with (go_at_call 40; (with_reducible refine (cut_same _ _ _).mono ?_); rintro e w' ⟨rfl, rfl⟩; rw [hs.out])
              go_ret2
              (refine ⟨end2 (by simp [sideMay, c6b, c1b, c2b, c3b, c4b, c5b]) (by rw [sideSince, if_neg (of_decide_eq_false c6b), if_neg (beq_eq_false_iff_ne.mp c2b)]), ?_⟩; first | exact ⟨0, rfl⟩ | exact ⟨1, rfl⟩ | (apply drawn_step; first | exact ⟨0, rfl⟩ | exact ⟨1, rfl⟩))
            · have c5b : decide (now ≤ hard) = false := decide_eq_false c5
              clear c6 c1 c2 c3 c4 c5
              go_enter Try.func41, Try.ntmps41
              go_wp2_with (go_at_call 40; (with_reducible refine (cut_same _ _ _).mono ?_); rintro e w' ⟨rfl, rfl⟩; rw [hs.out])
              go_ret2
              (refine ⟨end2 (by simp [sideMay, c6b, c1b, c2b, c3b, c4b, c5b]) (by rw [sideSince, if_neg (of_decide_eq_false c6b), if_neg (beq_eq_false_iff_ne.mp c2b)]), ?_⟩; first | exact ⟨0, rfl⟩ | exact ⟨1, rfl⟩ | (apply drawn_step; first | exact ⟨0, rfl⟩ | exact ⟨1, rfl⟩))
        · have c3b : decide (c - (s - 1) < g) = false := decide_eq_false c3
          by_cases c4 : now ≤ was
          · have c4b : decide (now ≤ was) = true := decide_eq_true c4
            clear c6 c1 c2 c3 c4
            go_enter Try.func41, Try.ntmps41
            go_wp2_with (go_at_call 40; (with_reducible refine (cut_same _ _ _).mono ?_); rintro e w' ⟨rfl, rfl⟩; rw [hs.out])
            go_ret2
            (refine ⟨end2 (by simp [sideMay, c6b, c1b, c2b, c3b, c4b]) (by rw [sideSince, if_neg (of_decide_eq_false c6b), if_neg (beq_eq_false_iff_ne.mp c2b)]), ?_⟩; first | exact ⟨0, rfl⟩ | exact ⟨1, rfl⟩ | (apply drawn_step; first | exact ⟨0, rfl⟩ | exact ⟨1, rfl⟩))
          · have c4b : decide (now ≤ was) = false := decide_eq_false c4
            by_cases c5 : now ≤ hard
            · have c5b : decide (now ≤ hard) = true := decide_eq_true c5
              clear c6 c1 c2 c3 c4 c5
              go_enter Try.func41, Try.ntmps41
              go_wp2_with (go_at_call 40; (with_reducible refine (cut_same _ _ _).mono ?_); rintro e w' ⟨rfl, rfl⟩; rw [hs.out])
              go_ret2
              (refine ⟨end2 (by simp [sideMay, c6b, c1b, c2b, c3b, c4b, c5b]) (by rw [sideSince, if_neg (of_decide_eq_false c6b), if_neg (beq_eq_false_iff_ne.mp c2b)]), ?_⟩; first | exact ⟨0, rfl⟩ | exact ⟨1, rfl⟩ | (apply drawn_step; first | exact ⟨0, rfl⟩ | exact ⟨1, rfl⟩))
            · have c5b : decide (now ≤ hard) = false := decide_eq_false c5
              clear c6 c1 c2 c3 c4 c5
              go_enter Try.func41, Try.ntmps41
              go_wp2_with (go_at_call 40; (with_reducible refine (cut_same _ _ _).mono ?_); rintro e w' ⟨rfl, rfl⟩; rw [hs.out])
              go_ret2
              (refine ⟨end2 (by simp [sideMay, c6b, c1b, c2b, c3b, c4b, c5b]) (by rw [sideSince, if_neg (of_decide_eq_false c6b), if_neg (beq_eq_false_iff_ne.mp c2b)]), ?_⟩; first | exact ⟨0, rfl⟩ | exact ⟨1, rfl⟩ | (apply drawn_step; first | exact ⟨0, rfl⟩ | exact ⟨1, rfl⟩))
    · have c1b : decide (0 < g) = false := decide_eq_false c1
      by_cases c2 : s = 0
      · have c2b : (s == 0) = true := beq_iff_eq.mpr c2
        by_cases c4 : now ≤ was
        · have c4b : decide (now ≤ was) = true := decide_eq_true c4
          clear c6 c1 c2 c4
          go_enter Try.func41, Try.ntmps41
          go_wp2_with (go_at_call 40; (with_reducible refine (cut_same _ _ _).mono ?_); rintro e w' ⟨rfl, rfl⟩; rw [hs.out])
          all_goals (go_region)
          all_goals (go_wp2)
          all_goals (go_ret2)
          all_goals (refine ⟨end2 (by simp [sideMay, c6b, c1b, c2b, c4b]) (by rw [sideSince, if_neg (of_decide_eq_false c6b), if_pos (beq_iff_eq.mp c2b), hm.out]), ?_⟩; first | exact ⟨0, rfl⟩ | exact ⟨1, rfl⟩ | (apply drawn_step; first | exact ⟨0, rfl⟩ | exact ⟨1, rfl⟩))
        · have c4b : decide (now ≤ was) = false := decide_eq_false c4
          by_cases c5 : now ≤ hard
          · have c5b : decide (now ≤ hard) = true := decide_eq_true c5
            clear c6 c1 c2 c4 c5
            go_enter Try.func41, Try.ntmps41
            go_wp2_with (go_at_call 40; (with_reducible refine (cut_same _ _ _).mono ?_); rintro e w' ⟨rfl, rfl⟩; rw [hs.out])
            all_goals (go_region)
            all_goals (go_wp2)
            all_goals (go_ret2)
            all_goals (refine ⟨end2 (by simp [sideMay, c6b, c1b, c2b, c4b, c5b]) (by rw [sideSince, if_neg (of_decide_eq_false c6b), if_pos (beq_iff_eq.mp c2b), hm.out]), ?_⟩; first | exact ⟨0, rfl⟩ | exact ⟨1, rfl⟩ | (apply drawn_step; first | exact ⟨0, rfl⟩ | exact ⟨1, rfl⟩))
          · have c5b : decide (now ≤ hard) = false := decide_eq_false c5
            clear c6 c1 c2 c4 c5
            go_enter Try.func41, Try.ntmps41
            go_wp2_with (go_at_call 40; (with_reducible refine (cut_same _ _ _).mono ?_); rintro e w' ⟨rfl, rfl⟩; rw [hs.out])
            all_goals (go_region)
            all_goals (go_wp2)
            all_goals (go_ret2)
            all_goals (refine ⟨end2 (by simp [sideMay, c6b, c1b, c2b, c4b, c5b]) (by rw [sideSince, if_neg (of_decide_eq_false c6b), if_pos (beq_iff_eq.mp c2b), hm.out]), ?_⟩; first | exact ⟨0, rfl⟩ | exact ⟨1, rfl⟩ | (apply drawn_step; first | exact ⟨0, rfl⟩ | exact ⟨1, rfl⟩))
      · have c2b : (s == 0) = false := beq_eq_false_iff_ne.mpr c2
        by_cases c4 : now ≤ was
        · have c4b : decide (now ≤ was) = true := decide_eq_true c4
          clear c6 c1 c2 c4
          go_enter Try.func41, Try.ntmps41
          go_wp2_with (go_at_call 40; (with_reducible refine (cut_same _ _ _).mono ?_); rintro e w' ⟨rfl, rfl⟩; rw [hs.out])
          go_ret2
          (refine ⟨end2 (by simp [sideMay, c6b, c1b, c2b, c4b]) (by rw [sideSince, if_neg (of_decide_eq_false c6b), if_neg (beq_eq_false_iff_ne.mp c2b)]), ?_⟩; first | exact ⟨0, rfl⟩ | exact ⟨1, rfl⟩ | (apply drawn_step; first | exact ⟨0, rfl⟩ | exact ⟨1, rfl⟩))
        · have c4b : decide (now ≤ was) = false := decide_eq_false c4
          by_cases c5 : now ≤ hard
          · have c5b : decide (now ≤ hard) = true := decide_eq_true c5
            clear c6 c1 c2 c4 c5
            go_enter Try.func41, Try.ntmps41
            go_wp2_with (go_at_call 40; (with_reducible refine (cut_same _ _ _).mono ?_); rintro e w' ⟨rfl, rfl⟩; rw [hs.out])
            go_ret2
            (refine ⟨end2 (by simp [sideMay, c6b, c1b, c2b, c4b, c5b]) (by rw [sideSince, if_neg (of_decide_eq_false c6b), if_neg (beq_eq_false_iff_ne.mp c2b)]), ?_⟩; first | exact ⟨0, rfl⟩ | exact ⟨1, rfl⟩ | (apply drawn_step; first | exact ⟨0, rfl⟩ | exact ⟨1, rfl⟩))
          · have c5b : decide (now ≤ hard) = false := decide_eq_false c5
            clear c6 c1 c2 c4 c5
            go_enter Try.func41, Try.ntmps41
            go_wp2_with (go_at_call 40; (with_reducible refine (cut_same _ _ _).mono ?_); rintro e w' ⟨rfl, rfl⟩; rw [hs.out])
            go_ret2
            (refine ⟨end2 (by simp [sideMay, c6b, c1b, c2b, c4b, c5b]) (by rw [sideSince, if_neg (of_decide_eq_false c6b), if_neg (beq_eq_false_iff_ne.mp c2b)]), ?_⟩; first | exact ⟨0, rfl⟩ | exact ⟨1, rfl⟩ | (apply drawn_step; first | exact ⟨0, rfl⟩ | exact ⟨1, rfl⟩))
end Go.Proofs.Ytmjkkkllmpagpaa.PQuota
