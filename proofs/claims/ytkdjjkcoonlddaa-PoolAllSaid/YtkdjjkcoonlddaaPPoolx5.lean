-- Written by wip/pr.py, a program of this session's own that drives the kit's printer: not a text of print.sh.
import Derived.Test.YtkdjjkcoonlddaaPPoolx0
namespace Go.Proofs.Ytkdjjkcoonlddaa.PPool
open Go.RowKit Go.Proofs.YtkdjjkcoonlddaaW.PrintWords Go.Proofs.YtkdjjkcoonlddaaW.PrintLast Go.Proofs.YtkdjjkcoonlddaaW.PrintMore
attribute [local go_sem] max2_int min2_int max_two min_two max_three min_three max_four min_four   -- for this text's walks alone
set_option linter.unusedVariables false
set_option linter.unusedSimpArgs false

/-! ### beguinageref12_Free: function 22 -/
mutual
def beguinageref12_Free.l0 : Nat → Int → List (S36) → List Int → Int → Option (List Int)
  | 0, _, _, _, _ => none
  | k + 1, x0, x1, x5, x6 => if x6 < x0 then (beguinageref12_Free.j1 k x0 x1 x5 x6 (decide (x6 < 65536))) else (beguinageref12_Free.j1 k x0 x1 x5 x6 false)
def beguinageref12_Free.j1 : Nat → Int → List (S36) → List Int → Int → Bool → Option (List Int)
  | 0, _, _, _, _, _ => none
  | k + 1, x0, x1, x5, x6, x16 => if x16 = true then (beguinageref12_Free.l1 k x0 x1 x5 x6 false 0) else (some x5)
def beguinageref12_Free.l1 : Nat → Int → List (S36) → List Int → Int → Bool → Int → Option (List Int)
  | 0, _, _, _, _, _, _ => none
  | k + 1, x0, x1, x5, x6, x7, x8 => if x8 < (x1.length : Int) then (beguinageref12_Free.l2 k x0 x1 x5 x6 x7 x8 0) else (if x7 = true then (beguinageref12_Free.l0 k x0 x1 x5 (wrap64 (x6 + 1))) else (if x5.length < 17592186044416 then (beguinageref12_Free.l0 k x0 x1 (x5 ++ [x6]) (wrap64 (x6 + 1))) else (none)))
def beguinageref12_Free.l2 : Nat → Int → List (S36) → List Int → Int → Bool → Int → Int → Option (List Int)
  | 0, _, _, _, _, _, _, _ => none
  | k + 1, x0, x1, x5, x6, x7, x8, x9 => if 0 ≤ x8 then (if x8 < (x1.length : Int) then (if x9 < (((rd_T36 x1 x8).f3).length : Int) then (if x7 = true then (beguinageref12_Free.l2 k x0 x1 x5 x6 true x8 (wrap64 (x9 + 1))) else (if 0 ≤ x9 then (beguinageref12_Free.l2 k x0 x1 x5 x6 ((rd ((rd_T36 x1 x8).f3) x9) == x6) x8 (wrap64 (x9 + 1))) else (none))) else (beguinageref12_Free.l1 k x0 x1 x5 x6 x7 (wrap64 (x8 + 1)))) else (none)) else (none)
end
def beguinageref12_Free.f (k : Nat) (a0 : Int) (l1 : List (S36)) : Option (List Int) := beguinageref12_Free.l0 k a0 l1 ([] : List Int) 0
theorem beguinageref12_Free.mono_l : ∀ k, (∀ y0 y1 y2 y3, LeO (beguinageref12_Free.l0 k y0 y1 y2 y3) (beguinageref12_Free.l0 (k + 1) y0 y1 y2 y3)) ∧ (∀ y0 y1 y2 y3 y4, LeO (beguinageref12_Free.j1 k y0 y1 y2 y3 y4) (beguinageref12_Free.j1 (k + 1) y0 y1 y2 y3 y4)) ∧ (∀ y0 y1 y2 y3 y4 y5, LeO (beguinageref12_Free.l1 k y0 y1 y2 y3 y4 y5) (beguinageref12_Free.l1 (k + 1) y0 y1 y2 y3 y4 y5)) ∧ (∀ y0 y1 y2 y3 y4 y5 y6, LeO (beguinageref12_Free.l2 k y0 y1 y2 y3 y4 y5 y6) (beguinageref12_Free.l2 (k + 1) y0 y1 y2 y3 y4 y5 y6))
  | 0 => ⟨fun _ _ _ _ r h => by simp [beguinageref12_Free.l0] at h, fun _ _ _ _ _ r h => by simp [beguinageref12_Free.j1] at h, fun _ _ _ _ _ _ r h => by simp [beguinageref12_Free.l1] at h, fun _ _ _ _ _ _ _ r h => by simp [beguinageref12_Free.l2] at h⟩
  | k + 1 => by
    obtain ⟨ih0, ih1, ih2, ih3⟩ := beguinageref12_Free.mono_l k
    refine ⟨?_, ?_, ?_, ?_⟩
    · intro y0 y1 y2 y3
      unfold beguinageref12_Free.l0
      repeat' first
      | (with_reducible exact ih0 _ _ _ _)
      | (with_reducible exact ih1 _ _ _ _ _)
      | (with_reducible exact ih2 _ _ _ _ _ _)
      | (with_reducible exact ih3 _ _ _ _ _ _ _)
      | (with_reducible exact LeO.refl _)
      | (with_reducible exact LeO.none _)
      | (with_reducible refine LeO.ite ?_ ?_)
      | (with_reducible refine LeO.bind ?_ (fun _ => ?_))
      | exact ih0 _ _ _ _
      | exact ih1 _ _ _ _ _
      | exact ih2 _ _ _ _ _ _
      | exact ih3 _ _ _ _ _ _ _
      | exact LeO.none _
      | refine LeO.ite ?_ ?_
      | refine LeO.bind ?_ (fun _ => ?_)
    · intro y0 y1 y2 y3 y4
      unfold beguinageref12_Free.j1
      repeat' first
      | (with_reducible exact ih0 _ _ _ _)
      | (with_reducible exact ih1 _ _ _ _ _)
      | (with_reducible exact ih2 _ _ _ _ _ _)
      | (with_reducible exact ih3 _ _ _ _ _ _ _)
      | (with_reducible exact LeO.refl _)
      | (with_reducible exact LeO.none _)
      | (with_reducible refine LeO.ite ?_ ?_)
      | (with_reducible refine LeO.bind ?_ (fun _ => ?_))
      | exact ih0 _ _ _ _
      | exact ih1 _ _ _ _ _
      | exact ih2 _ _ _ _ _ _
      | exact ih3 _ _ _ _ _ _ _
      | exact LeO.none _
      | refine LeO.ite ?_ ?_
      | refine LeO.bind ?_ (fun _ => ?_)
    · intro y0 y1 y2 y3 y4 y5
      unfold beguinageref12_Free.l1
      repeat' first
      | (with_reducible exact ih0 _ _ _ _)
      | (with_reducible exact ih1 _ _ _ _ _)
      | (with_reducible exact ih2 _ _ _ _ _ _)
      | (with_reducible exact ih3 _ _ _ _ _ _ _)
      | (with_reducible exact LeO.refl _)
      | (with_reducible exact LeO.none _)
      | (with_reducible refine LeO.ite ?_ ?_)
      | (with_reducible refine LeO.bind ?_ (fun _ => ?_))
      | exact ih0 _ _ _ _
      | exact ih1 _ _ _ _ _
      | exact ih2 _ _ _ _ _ _
      | exact ih3 _ _ _ _ _ _ _
      | exact LeO.none _
      | refine LeO.ite ?_ ?_
      | refine LeO.bind ?_ (fun _ => ?_)
    · intro y0 y1 y2 y3 y4 y5 y6
      unfold beguinageref12_Free.l2
      repeat' first
      | (with_reducible exact ih0 _ _ _ _)
      | (with_reducible exact ih1 _ _ _ _ _)
      | (with_reducible exact ih2 _ _ _ _ _ _)
      | (with_reducible exact ih3 _ _ _ _ _ _ _)
      | (with_reducible exact LeO.refl _)
      | (with_reducible exact LeO.none _)
      | (with_reducible refine LeO.ite ?_ ?_)
      | (with_reducible refine LeO.bind ?_ (fun _ => ?_))
      | exact ih0 _ _ _ _
      | exact ih1 _ _ _ _ _
      | exact ih2 _ _ _ _ _ _
      | exact ih3 _ _ _ _ _ _ _
      | exact LeO.none _
      | refine LeO.ite ?_ ?_
      | refine LeO.bind ?_ (fun _ => ?_)
theorem beguinageref12_Free.mono : ∀ a0 a1 k, LeO (beguinageref12_Free.f k a0 a1) (beguinageref12_Free.f (k + 1) a0 a1) := by
  intro a0 a1 k
  obtain ⟨ih0, ih1, ih2, ih3⟩ := beguinageref12_Free.mono_l k
  unfold beguinageref12_Free.f
  repeat' first
      | (with_reducible exact ih0 _ _ _ _)
      | (with_reducible exact ih1 _ _ _ _ _)
      | (with_reducible exact ih2 _ _ _ _ _ _)
      | (with_reducible exact ih3 _ _ _ _ _ _ _)
      | (with_reducible exact LeO.refl _)
      | (with_reducible exact LeO.none _)
      | (with_reducible refine LeO.ite ?_ ?_)
      | (with_reducible refine LeO.bind ?_ (fun _ => ?_))
      | exact ih0 _ _ _ _
      | exact ih1 _ _ _ _ _
      | exact ih2 _ _ _ _ _ _
      | exact ih3 _ _ _ _ _ _ _
      | exact LeO.none _
      | refine LeO.ite ?_ ?_
      | refine LeO.bind ?_ (fun _ => ?_)
set_option maxHeartbeats 8000000 in
set_option maxRecDepth 100000 in
theorem beguinageref12_Free.calls (k : Nat) (a0 : Int) (A1 : Option Addr) (c1 : Nat) (l1 : List (S36)) (r : List Int) (w : World) (hr1 : Kd.C k36 w A1 l1.length l1) (hc1 : l1.length ≤ c1) (h : beguinageref12_Free.f k a0 l1 = some r) :
    Calls Try.prog 22 #[.int .i64 a0, .slice A1 l1.length c1] w fun e w' => ∃ v0_ : Value, e = .returned (v0_) ∧ Kd.R (Kd.int .i64) 3 w' w.heap.size (fun _ => True) v0_ r ∧ Below w.heap.size w w' := by
  have HR1 := Aside0.mk hr1
  have HC1 := Aside0.mk hc1
  clear hr1 hc1
  have HB := Aside0.mk (Below.refl w.heap.size w)
  have H : (beguinageref12_Free.l0 k a0 l1 ([] : List Int) 0) = some r := h
  clear h
  have H' := Aside0.mk H
  clear H
  go_enter Try.func22, Try.ntmps22
  go_wp2
  go_loopg [5, 6] k (fun kq v5 v6 w' => ∃ (x5_1 : List Int) (x6_1 : Int), v6 = .int .i64 x6_1 ∧ Aside0 (beguinageref12_Free.l0 kq a0 l1 x5_1 x6_1 = some r) ∧ Aside0 (kq ≤ k) ∧ Aside0 (Kd.R (Kd.int .i64) 3 w' w.heap.size (fun _ => True) v5 x5_1) ∧ Aside0 (Below w.heap.size w w'))
  case atStart => exact ⟨(([] : List Int)), (0), (by first | rfl | (simp; done) | (simp [*]; done)), H', ⟨Nat.le_refl _⟩, ⟨by first | exact Kd.R_nil _ _ _ _ _ | exact Kd.N_nil _ _ _ _ _ | exact Kd.V_nil _ _ _ _ _ | exact Kd.Q_nil _ _ _ _ _ | exact Kd.S_nil _ _ _ _ _⟩, ⟨by repeat (first | (with_reducible first | exact HB.out | apply below_alloc | apply pw_below_drewN | apply below_drew1) | exact HB.out)⟩⟩
  case round =>
    clear H'
    try clear c1
    try clear c2
    try clear p2
    obtain ⟨x5_1, x6_1, rfl, HA, HK1, HO_5, HB⟩ := hrel
    cases gk with
    | zero => exact absurd HA.out (by simp [beguinageref12_Free.l0])
    | succ k1 =>
      have H := HA.out
      clear HA
      simp only [beguinageref12_Free.l0] at H
      have HC3 := Aside0.mk H
      clear H
      go_upto_region 3 with (fail)
      go_cut [16] (fun v16 wc => ∃ (kq : Nat) (x16_2 : Bool), v16 = .bool x16_2 ∧ Aside0 (beguinageref12_Free.j1 kq a0 l1 x5_1 x6_1 x16_2 = some r) ∧ Aside0 (kq ≤ k1) ∧ Aside0 (Kd.R (Kd.int .i64) 3 wc w.heap.size (fun _ => True) u5 x5_1) ∧ Aside0 (Below w.heap.size w wc))
      case first =>
        have H := HC3.out
        clear HC3
        by_cases c4 : x6_1 < a0
        · rw [if_pos c4] at H
          have c4b0 : decide (x6_1 < a0) = true := decide_eq_true c4
          clear c4
          (first | rw [c4b0] | (simp only [i64_w, i32_w]; rw [c4b0]) | skip)
          have H' := Aside0.mk H
          clear H
          go_wp2
          go_meet
          case rel => exact ⟨_, (decide (x6_1 < 65536)), (by first | rfl | (simp; done) | (simp [*]; done)), H', ⟨by have := HK1.out; first | omega | exact Nat.le_refl _⟩, ⟨by (with_reducible repeat (first | apply Kd.R_alloc | apply Kd.R_drewN | apply Kd.R_drew)); exact HO_5.out⟩, ⟨by repeat (first | (with_reducible first | exact HB.out | apply below_alloc | apply pw_below_drewN | apply below_drew1) | exact HB.out)⟩⟩
        · rw [if_neg c4] at H
          have c4b0 : decide (x6_1 < a0) = false := decide_eq_false c4
          clear c4
          (first | rw [c4b0] | (simp only [i64_w, i32_w]; rw [c4b0]) | skip)
          have H' := Aside0.mk H
          clear H
          go_wp2
          go_meet
          case rel => exact ⟨_, (false), (by first | rfl | (simp; done) | (simp [*]; done)), H', ⟨by have := HK1.out; first | omega | exact Nat.le_refl _⟩, ⟨by (with_reducible repeat (first | apply Kd.R_alloc | apply Kd.R_drewN | apply Kd.R_drew)); exact HO_5.out⟩, ⟨by repeat (first | (with_reducible first | exact HB.out | apply below_alloc | apply pw_below_drewN | apply below_drew1) | exact HB.out)⟩⟩
      case rest =>
        clear HC3
        try clear c1
        try clear c2
        try clear p2
        try clear c4
        try clear c4b0
        try clear p2
        obtain ⟨kq, x16_2, rfl, HA, HJ2, HO_5, HB⟩ := hcut
        cases kq with
        | zero => exact absurd HA.out (by simp [beguinageref12_Free.j1])
        | succ kj2 =>
          have H := HA.out
          clear HA
          simp only [beguinageref12_Free.j1] at H
          by_cases c5 : x16_2 = true
          · subst c5
            have H1 : (beguinageref12_Free.l1 kj2 a0 l1 x5_1 x6_1 false 0) = some r := by rw [if_pos rfl] at H; exact H
            clear H
            have H := H1
            clear H1
            have H' := Aside0.mk H
            clear H
            go_wp2
            go_loopg [7, 8] kj2 (fun kq v7 v8 w' => ∃ (x7_3 : Bool) (x8_3 : Int), v7 = .bool x7_3 ∧ v8 = .int .i64 x8_3 ∧ Aside0 (beguinageref12_Free.l1 kq a0 l1 x5_1 x6_1 x7_3 x8_3 = some r) ∧ Aside0 (kq ≤ kj2) ∧ Aside0 (Kd.R (Kd.int .i64) 3 w' w.heap.size (fun _ => True) u5 x5_1) ∧ Aside0 (Below w.heap.size w w'))
            case atStart => exact ⟨(false), (0), (by first | rfl | (simp; done) | (simp [*]; done)), (by first | rfl | (simp; done) | (simp [*]; done)), H', ⟨Nat.le_refl _⟩, ⟨by (with_reducible repeat (first | apply Kd.R_alloc | apply Kd.R_drewN | apply Kd.R_drew)); exact HO_5.out⟩, ⟨by repeat (first | (with_reducible first | exact HB.out | apply below_alloc | apply pw_below_drewN | apply below_drew1) | exact HB.out)⟩⟩
            case round =>
              clear H'
              try clear c1
              try clear c2
              try clear p2
              try clear c4
              try clear c4b0
              try clear c5
              try clear p2
              obtain ⟨x7_3, x8_3, rfl, rfl, HA, HK3, HO_5, HB⟩ := hrel
              cases gk with
              | zero => exact absurd HA.out (by simp [beguinageref12_Free.l1])
              | succ k3 =>
                have H := HA.out
                clear HA
                simp only [beguinageref12_Free.l1] at H
                by_cases c6 : x8_3 < (l1.length : Int)
                · rw [if_pos c6] at H
                  have c6b0 : decide (x8_3 < (l1.length : Int)) = true := decide_eq_true c6
                  clear c6
                  have H' := Aside0.mk H
                  clear H
                  go_wp2
                  go_loopg [7, 9] k3 (fun kq v7 v9 w' => ∃ (x7_4 : Bool) (x9_4 : Int), v7 = .bool x7_4 ∧ v9 = .int .i64 x9_4 ∧ Aside0 (beguinageref12_Free.l2 kq a0 l1 x5_1 x6_1 x7_4 x8_3 x9_4 = some r) ∧ Aside0 (kq ≤ k3) ∧ Aside0 (Kd.R (Kd.int .i64) 3 w' w.heap.size (fun _ => True) u5 x5_1) ∧ Aside0 (Below w.heap.size w w'))
                  case atStart => exact ⟨(x7_3), (0), (by first | rfl | (simp; done) | (simp [*]; done)), (by first | rfl | (simp; done) | (simp [*]; done)), H', ⟨Nat.le_refl _⟩, ⟨by (with_reducible repeat (first | apply Kd.R_alloc | apply Kd.R_drewN | apply Kd.R_drew)); exact HO_5.out⟩, ⟨by repeat (first | (with_reducible first | exact HB.out | apply below_alloc | apply pw_below_drewN | apply below_drew1) | exact HB.out)⟩⟩
                  case round =>
                    clear H'
                    try clear c1
                    try clear c2
                    try clear p2
                    try clear c4
                    try clear c4b0
                    try clear c5
                    try clear c6
                    try clear c6b0
                    try clear p2
                    obtain ⟨x7_4, x9_4, rfl, rfl, HA, HK4, HO_5, HB⟩ := hrel
                    cases gk with
                    | zero => exact absurd HA.out (by simp [beguinageref12_Free.l2])
                    | succ k4 =>
                      have H := HA.out
                      clear HA
                      simp only [beguinageref12_Free.l2] at H
                      by_cases c7 : 0 ≤ x8_3
                      · rw [if_pos c7] at H
                        have c7b0 : decide (0 ≤ x8_3) = true := decide_eq_true c7
                        clear c7
                        by_cases c8 : x8_3 < (l1.length : Int)
                        · rw [if_pos c8] at H
                          have c8b0 : decide (x8_3 < (l1.length : Int)) = true := decide_eq_true c8
                          clear c8
                          by_cases c9 : x9_4 < (((rd_T36 l1 x8_3).f3).length : Int)
                          · rw [if_pos c9] at H
                            have c9b0 : decide (x9_4 < (((rd_T36 l1 x8_3).f3).length : Int)) = true := decide_eq_true c9
                            clear c9
                            by_cases c10 : x7_4 = true
                            · subst c10
                              have H1 : (beguinageref12_Free.l2 k4 a0 l1 x5_1 x6_1 true x8_3 (wrap64 (x9_4 + 1))) = some r := by rw [if_pos rfl] at H; exact H
                              clear H
                              have H := H1
                              clear H1
                              have H' := Aside0.mk H
                              clear H
                              have p113 : 0 ≤ (x8_3 : Int) := of_decide_eq_true (by first | (with_reducible assumption) | assumption)
                              have q113 : x8_3 < (l1.length : Int) := of_decide_eq_true (by first | (with_reducible assumption) | assumption)
                              obtain ⟨ad113, A113_9, c113_9, e113, hx113_0, hx113_1, hx113_2, hx113_3, hx113_4, hx113_5, hx113_6, hx113_7, hx113_8, hx113_9, hl113_9, hi113_9⟩ := at_T36 HR1.out x8_3 p113 q113
                              cases e113
                              replace hx113_0 := (HB.out.cell (World.block_lt_of_cell? w _ hx113_0)).trans hx113_0
                              replace hx113_1 := (HB.out.cell (World.block_lt_of_cell? w _ hx113_1)).trans hx113_1
                              replace hx113_2 := (HB.out.cell (World.block_lt_of_cell? w _ hx113_2)).trans hx113_2
                              replace hx113_3 := (HB.out.cell (World.block_lt_of_cell? w _ hx113_3)).trans hx113_3
                              replace hx113_4 := (HB.out.cell (World.block_lt_of_cell? w _ hx113_4)).trans hx113_4
                              replace hx113_5 := (HB.out.cell (World.block_lt_of_cell? w _ hx113_5)).trans hx113_5
                              replace hx113_6 := (HB.out.cell (World.block_lt_of_cell? w _ hx113_6)).trans hx113_6
                              replace hx113_7 := (HB.out.cell (World.block_lt_of_cell? w _ hx113_7)).trans hx113_7
                              replace hx113_8 := (HB.out.cell (World.block_lt_of_cell? w _ hx113_8)).trans hx113_8
                              replace hx113_9 := (HB.out.cell (World.block_lt_of_cell? w _ hx113_9)).trans hx113_9
                              have HR113_9 := Aside0.mk hi113_9
                              have HC113_9 := Aside0.mk hl113_9
                              clear hi113_9 hl113_9
                              replace p113 := eq_true p113
                              replace q113 := eq_true q113
                              go_wp2
                              go_roundg k4
                              case measure => have := HK1.out; have := HJ2.out; have := HK3.out; have := HK4.out; omega
                              case rel => exact ⟨(true), (wrap64 (x9_4 + 1)), (by first | rfl | (simp; done) | (simp [*]; done)), (by first | rfl | (simp; done) | (simp [*]; done)), H', ⟨by have := HK1.out; have := HJ2.out; have := HK3.out; have := HK4.out; omega⟩, ⟨by (with_reducible repeat (first | apply Kd.R_alloc | apply Kd.R_drewN | apply Kd.R_drew)); exact HO_5.out⟩, ⟨by repeat (first | (with_reducible first | exact HB.out | apply below_alloc | apply pw_below_drewN | apply below_drew1) | exact HB.out)⟩⟩
                            · replace c10 := Bool.eq_false_iff.mpr c10
                              subst c10
                              have H1 : (if 0 ≤ x9_4 then (beguinageref12_Free.l2 k4 a0 l1 x5_1 x6_1 ((rd ((rd_T36 l1 x8_3).f3) x9_4) == x6_1) x8_3 (wrap64 (x9_4 + 1))) else (none)) = some r := by rw [if_neg (show ¬ (false = true) by decide)] at H; exact H
                              clear H
                              have H := H1
                              clear H1
                              by_cases c11 : 0 ≤ x9_4
                              · rw [if_pos c11] at H
                                have c11b0 : decide (0 ≤ x9_4) = true := decide_eq_true c11
                                clear c11
                                have H' := Aside0.mk H
                                clear H
                                have p113 : 0 ≤ (x8_3 : Int) := of_decide_eq_true (by first | (with_reducible assumption) | assumption)
                                have q113 : x8_3 < (l1.length : Int) := of_decide_eq_true (by first | (with_reducible assumption) | assumption)
                                obtain ⟨ad113, A113_9, c113_9, e113, hx113_0, hx113_1, hx113_2, hx113_3, hx113_4, hx113_5, hx113_6, hx113_7, hx113_8, hx113_9, hl113_9, hi113_9⟩ := at_T36 HR1.out x8_3 p113 q113
                                cases e113
                                replace hx113_0 := (HB.out.cell (World.block_lt_of_cell? w _ hx113_0)).trans hx113_0
                                replace hx113_1 := (HB.out.cell (World.block_lt_of_cell? w _ hx113_1)).trans hx113_1
                                replace hx113_2 := (HB.out.cell (World.block_lt_of_cell? w _ hx113_2)).trans hx113_2
                                replace hx113_3 := (HB.out.cell (World.block_lt_of_cell? w _ hx113_3)).trans hx113_3
                                replace hx113_4 := (HB.out.cell (World.block_lt_of_cell? w _ hx113_4)).trans hx113_4
                                replace hx113_5 := (HB.out.cell (World.block_lt_of_cell? w _ hx113_5)).trans hx113_5
                                replace hx113_6 := (HB.out.cell (World.block_lt_of_cell? w _ hx113_6)).trans hx113_6
                                replace hx113_7 := (HB.out.cell (World.block_lt_of_cell? w _ hx113_7)).trans hx113_7
                                replace hx113_8 := (HB.out.cell (World.block_lt_of_cell? w _ hx113_8)).trans hx113_8
                                replace hx113_9 := (HB.out.cell (World.block_lt_of_cell? w _ hx113_9)).trans hx113_9
                                have HR113_9 := Aside0.mk hi113_9
                                have HC113_9 := Aside0.mk hl113_9
                                clear hi113_9 hl113_9
                                replace p113 := eq_true p113
                                replace q113 := eq_true q113
                                have p114 : 0 ≤ (x8_3 : Int) := of_decide_eq_true (by first | (with_reducible assumption) | assumption)
                                have q114 : x8_3 < (l1.length : Int) := of_decide_eq_true (by first | (with_reducible assumption) | assumption)
                                obtain ⟨ad114, A114_9, c114_9, e114, hx114_0, hx114_1, hx114_2, hx114_3, hx114_4, hx114_5, hx114_6, hx114_7, hx114_8, hx114_9, hl114_9, hi114_9⟩ := at_T36 HR1.out x8_3 p114 q114
                                obtain rfl : ad113 = ad114 := (by injection e114)
                                replace hx114_0 := (HB.out.cell (World.block_lt_of_cell? w _ hx114_0)).trans hx114_0
                                replace hx114_1 := (HB.out.cell (World.block_lt_of_cell? w _ hx114_1)).trans hx114_1
                                replace hx114_2 := (HB.out.cell (World.block_lt_of_cell? w _ hx114_2)).trans hx114_2
                                replace hx114_3 := (HB.out.cell (World.block_lt_of_cell? w _ hx114_3)).trans hx114_3
                                replace hx114_4 := (HB.out.cell (World.block_lt_of_cell? w _ hx114_4)).trans hx114_4
                                replace hx114_5 := (HB.out.cell (World.block_lt_of_cell? w _ hx114_5)).trans hx114_5
                                replace hx114_6 := (HB.out.cell (World.block_lt_of_cell? w _ hx114_6)).trans hx114_6
                                replace hx114_7 := (HB.out.cell (World.block_lt_of_cell? w _ hx114_7)).trans hx114_7
                                replace hx114_8 := (HB.out.cell (World.block_lt_of_cell? w _ hx114_8)).trans hx114_8
                                replace hx114_9 := (HB.out.cell (World.block_lt_of_cell? w _ hx114_9)).trans hx114_9
                                have HR114_9 := Aside0.mk hi114_9
                                have HC114_9 := Aside0.mk hl114_9
                                clear hi114_9 hl114_9
                                replace p114 := eq_true p114
                                replace q114 := eq_true q114
                                have ea_ := Option.some.inj (hx113_9.symm.trans hx114_9)
                                injection ea_ with ea_ en_ ec_
                                subst ea_
                                subst ec_
                                clear en_
                                have p115 : 0 ≤ (x9_4 : Int) := of_decide_eq_true (by first | (with_reducible assumption) | assumption)
                                have q115 : x9_4 < (((rd_T36 l1 x8_3).f3).length : Int) := of_decide_eq_true (by first | (with_reducible assumption) | assumption)
                                obtain ⟨ad115, e115, hx115_0⟩ := Kd.at_int HR114_9.out x9_4 p115 q115
                                cases e115
                                replace hx115_0 := (HB.out.cell (World.block_lt_of_cell? w _ hx115_0)).trans hx115_0
                                replace p115 := eq_true p115
                                replace q115 := eq_true q115
                                go_wp2
                                go_roundg k4
                                case measure => have := HK1.out; have := HJ2.out; have := HK3.out; have := HK4.out; omega
                                case rel => exact ⟨(((rd ((rd_T36 l1 x8_3).f3) x9_4) == x6_1)), (wrap64 (x9_4 + 1)), (by first | rfl | (simp; done) | (simp [*]; done)), (by first | rfl | (simp; done) | (simp [*]; done)), H', ⟨by have := HK1.out; have := HJ2.out; have := HK3.out; have := HK4.out; omega⟩, ⟨by (with_reducible repeat (first | apply Kd.R_alloc | apply Kd.R_drewN | apply Kd.R_drew)); exact HO_5.out⟩, ⟨by repeat (first | (with_reducible first | exact HB.out | apply below_alloc | apply pw_below_drewN | apply below_drew1) | exact HB.out)⟩⟩
                              · rw [if_neg c11] at H
                                exact absurd H (by simp)
                          · rw [if_neg c9] at H
                            have c9b0 : decide (x9_4 < (((rd_T36 l1 x8_3).f3).length : Int)) = false := decide_eq_false c9
                            clear c9
                            have H' := Aside0.mk H
                            clear H
                            have p113 : 0 ≤ (x8_3 : Int) := of_decide_eq_true (by first | (with_reducible assumption) | assumption)
                            have q113 : x8_3 < (l1.length : Int) := of_decide_eq_true (by first | (with_reducible assumption) | assumption)
                            obtain ⟨ad113, A113_9, c113_9, e113, hx113_0, hx113_1, hx113_2, hx113_3, hx113_4, hx113_5, hx113_6, hx113_7, hx113_8, hx113_9, hl113_9, hi113_9⟩ := at_T36 HR1.out x8_3 p113 q113
                            cases e113
                            replace hx113_0 := (HB.out.cell (World.block_lt_of_cell? w _ hx113_0)).trans hx113_0
                            replace hx113_1 := (HB.out.cell (World.block_lt_of_cell? w _ hx113_1)).trans hx113_1
                            replace hx113_2 := (HB.out.cell (World.block_lt_of_cell? w _ hx113_2)).trans hx113_2
                            replace hx113_3 := (HB.out.cell (World.block_lt_of_cell? w _ hx113_3)).trans hx113_3
                            replace hx113_4 := (HB.out.cell (World.block_lt_of_cell? w _ hx113_4)).trans hx113_4
                            replace hx113_5 := (HB.out.cell (World.block_lt_of_cell? w _ hx113_5)).trans hx113_5
                            replace hx113_6 := (HB.out.cell (World.block_lt_of_cell? w _ hx113_6)).trans hx113_6
                            replace hx113_7 := (HB.out.cell (World.block_lt_of_cell? w _ hx113_7)).trans hx113_7
                            replace hx113_8 := (HB.out.cell (World.block_lt_of_cell? w _ hx113_8)).trans hx113_8
                            replace hx113_9 := (HB.out.cell (World.block_lt_of_cell? w _ hx113_9)).trans hx113_9
                            have HR113_9 := Aside0.mk hi113_9
                            have HC113_9 := Aside0.mk hl113_9
                            clear hi113_9 hl113_9
                            replace p113 := eq_true p113
                            replace q113 := eq_true q113
                            go_wp2
                            go_roundg k4
                            case measure => have := HK1.out; have := HJ2.out; have := HK3.out; have := HK4.out; omega
                            case rel => exact ⟨(x7_4), (wrap64 (x8_3 + 1)), (by first | rfl | (simp; done) | (simp [*]; done)), (by first | rfl | (simp; done) | (simp [*]; done)), H', ⟨by have := HK1.out; have := HJ2.out; have := HK3.out; have := HK4.out; omega⟩, ⟨by (with_reducible repeat (first | apply Kd.R_alloc | apply Kd.R_drewN | apply Kd.R_drew)); exact HO_5.out⟩, ⟨by repeat (first | (with_reducible first | exact HB.out | apply below_alloc | apply pw_below_drewN | apply below_drew1) | exact HB.out)⟩⟩
                        · rw [if_neg c8] at H
                          exact absurd H (by simp)
                      · rw [if_neg c7] at H
                        exact absurd H (by simp)
                · rw [if_neg c6] at H
                  have c6b0 : decide (x8_3 < (l1.length : Int)) = false := decide_eq_false c6
                  clear c6
                  by_cases c12 : x7_3 = true
                  · subst c12
                    have H1 : (beguinageref12_Free.l0 k3 a0 l1 x5_1 (wrap64 (x6_1 + 1))) = some r := by rw [if_pos rfl] at H; exact H
                    clear H
                    have H := H1
                    clear H1
                    have H' := Aside0.mk H
                    clear H
                    go_wp2
                    go_roundg k3
                    case measure => have := HK1.out; have := HJ2.out; have := HK3.out; omega
                    case rel => exact ⟨(x5_1), (wrap64 (x6_1 + 1)), (by first | rfl | (simp; done) | (simp [*]; done)), H', ⟨by have := HK1.out; have := HJ2.out; have := HK3.out; omega⟩, ⟨by (with_reducible repeat (first | apply Kd.R_alloc | apply Kd.R_drewN | apply Kd.R_drew)); exact HO_5.out⟩, ⟨by repeat (first | (with_reducible first | exact HB.out | apply below_alloc | apply pw_below_drewN | apply below_drew1) | exact HB.out)⟩⟩
                  · replace c12 := Bool.eq_false_iff.mpr c12
                    subst c12
                    have H1 : (if x5_1.length < 17592186044416 then (beguinageref12_Free.l0 k3 a0 l1 (x5_1 ++ [x6_1]) (wrap64 (x6_1 + 1))) else (none)) = some r := by rw [if_neg (show ¬ (false = true) by decide)] at H; exact H
                    clear H
                    have H := H1
                    clear H1
                    by_cases c13 : x5_1.length < 17592186044416
                    · rw [if_pos c13] at H
                      have LMc13 := Aside0.mk c13
                      clear c13
                      obtain ⟨y110, hy110⟩ : ∃ y_ : List Int, y_ = (x5_1 ++ [x6_1]) := ⟨_, rfl⟩
                      replace H : (beguinageref12_Free.l0 k3 a0 l1 y110 (wrap64 (x6_1 + 1))) = some r := by first | (rw [hy110]; with_reducible exact H) | (have H2_ := (Option.bind_some _ _).symm.trans H; rw [hy110]; with_reducible exact H2_) | (have H2_ := (Option.bind_some _ _).symm.trans H; with_reducible exact H2_) | with_reducible exact H | (rw [hy110]; exact H) | exact H
                      have Ny110 := Aside0.mk hy110
                      clear hy110
                      have H' := Aside0.mk H
                      clear H
                      go_wp2_with (first | ((with_reducible refine gate_builtin (b := .append) (xs := #[.tmp 50, .tmp 52]) rfl ?_); at_builtin; refine Kd.R_append (Kd.int .i64) (w0 := w) w.heap.size rfl (.tmp 50) (.tmp 52) 26 3 (.int .i64 0) 8 rfl Try.underlying26 info3 rfl (by decide) (by omega) u5 x5_1 x6_1 [.int .i64 x6_1] (fun _ => True) (fun _ => False) rfl rfl ?aP (fun _ hk => hk.elim) ?aF ?aO ?aB ?aS ?aL ?_; (case aP => exact rfl); (case aB => exact (by repeat (first | (with_reducible first | exact HB.out | apply below_alloc | apply pw_below_drewN | apply below_drew1) | exact HB.out))); (case aF => exact (fun _ _ => trivial)); (case aO => exact (by (with_reducible repeat (first | apply Kd.R_alloc | apply Kd.R_drewN | apply Kd.R_drew)); exact HO_5.out)); (case aS => exact (below_size (by repeat (first | (with_reducible first | exact HB.out | apply below_alloc | apply pw_below_drewN | apply below_drew1) | exact HB.out)))); (case aL => have := LMc13.out; omega); intro v111 w14 ho hb hg hat; rw [← Ny110.out] at ho; have n0_ := Aside0.mk (hb); have n1_ := Aside0.mk (ho); clear HB; clear HO_5; have HB := n0_; have HO112 := n1_; clear n0_ n1_; clear ho hb hg hat))
                      go_roundg k3
                      case measure => have := HK1.out; have := HJ2.out; have := HK3.out; omega
                      case rel => exact ⟨(y110), (wrap64 (x6_1 + 1)), (by first | rfl | (simp; done) | (simp [*]; done)), H', ⟨by have := HK1.out; have := HJ2.out; have := HK3.out; omega⟩, ⟨by (with_reducible repeat (first | apply Kd.R_alloc | apply Kd.R_drewN | apply Kd.R_drew)); exact HO112.out⟩, ⟨by repeat (first | (with_reducible first | exact HB.out | apply below_alloc | apply pw_below_drewN | apply below_drew1) | exact HB.out)⟩⟩
                    · rw [if_neg c13] at H
                      exact absurd H (by simp)
          · replace c5 := Bool.eq_false_iff.mpr c5
            subst c5
            have H1 : (some x5_1) = some r := by rw [if_neg (show ¬ (false = true) by decide)] at H; exact H
            clear H
            have H := H1
            clear H1
            obtain rfl := Option.some.inj H
            go_wp2
            go_ret
            exact ⟨_, by first | rfl | (simp [errW_none, errW_some] <;> rfl) | (simp [*, errW_none, errW_some] <;> rfl), by (with_reducible repeat (first | apply Kd.R_alloc | apply Kd.R_drewN | apply Kd.R_drew)); exact HO_5.out, by repeat (first | (with_reducible first | exact HB.out | apply below_alloc | apply pw_below_drewN | apply below_drew1) | exact HB.out)⟩

end Go.Proofs.Ytkdjjkcoonlddaa.PPool
