-- Written by wip/pr.py, a program of this session's own that drives the kit's printer: not a text of print.sh.
import Derived.Test.YtbdghlneiblkcaaPSpanx0
import Derived.Test.YtbdghlneiblkcaaPSpanx2
import Derived.Test.YtbdghlneiblkcaaSpanInds
namespace Go.Proofs.Ytbdghlneiblkcaa.PSpan
open Go.RowKit Go.Proofs.YtbdghlneiblkcaaW.PrintWords Go.Proofs.YtbdghlneiblkcaaW.PrintLast Go.Proofs.YtbdghlneiblkcaaW.PrintMore
attribute [local go_sem] max2_int min2_int max_two min_two max_three min_three max_four min_four   -- for this text's walks alone
set_option linter.unusedVariables false
set_option linter.unusedSimpArgs false

/-! ### beguinagelaw10_SpanNeeds: function 4 -/
def beguinagelaw10_SpanNeeds.j0 : Nat → List Int → List Int → Bool → Option (Bool)
  | 0, _, _, _ => none
  | k + 1, x0, x1, x15 => if x15 = true then ((beguinagelaw10_awake.f k).bind fun t113 => (some t113)) else ((span_Inds.f x0).bind fun t114 => ((span_Inds.f x1).bind fun t115 => (if ([] : List Int).length + x0.length < 17592186044416 then ((some (([] : List Int) ++ x0 : List Int)).bind fun y116 => (if y116.length + x1.length < 17592186044416 then ((span_Inds.f (y116 ++ x1)).bind fun t122 => (if t114 ≥ 0 then (if t122 ≥ (mx t114 t115) then (if t122 ≤ (wrap64 (t114 + t115)) then (if t122 ≤ 10 then ((some (([] : List Int) ++ x0 : List Int)).bind fun y123 => (if y123.length + x0.length < 17592186044416 then ((span_Inds.f (y123 ++ x0)).bind fun t129 => (if t129 = t114 then ((beguinagelaw10_awake.f k).bind fun t130 => (some t130)) else (some false))) else (none))) else (some false)) else (some false)) else (some false)) else (some false))) else (none))) else (none))))
def beguinagelaw10_SpanNeeds.f (k : Nat) (l0 : List Int) (l1 : List Int) : Option (Bool) := if (l0.length : Int) > 200 then (beguinagelaw10_SpanNeeds.j0 k l0 l1 true) else (beguinagelaw10_SpanNeeds.j0 k l0 l1 (decide ((l1.length : Int) > 200)))
theorem beguinagelaw10_SpanNeeds.mono_l : ∀ k, (∀ y0 y1 y2, LeO (beguinagelaw10_SpanNeeds.j0 k y0 y1 y2) (beguinagelaw10_SpanNeeds.j0 (k + 1) y0 y1 y2))
  | 0 => fun _ _ _ r h => by simp [beguinagelaw10_SpanNeeds.j0] at h
  | k + 1 => by
    have ih0 := beguinagelaw10_SpanNeeds.mono_l k
    · intro y0 y1 y2
      unfold beguinagelaw10_SpanNeeds.j0
      repeat' first
      | (with_reducible exact ih0 _ _ _)
      | (with_reducible exact beguinagelaw10_awake.mono _)
      | (with_reducible exact LeO.refl _)
      | (with_reducible exact LeO.none _)
      | (with_reducible refine LeO.ite ?_ ?_)
      | (with_reducible refine LeO.bind ?_ (fun _ => ?_))
      | exact ih0 _ _ _
      | exact beguinagelaw10_awake.mono _
      | exact LeO.none _
      | refine LeO.ite ?_ ?_
      | refine LeO.bind ?_ (fun _ => ?_)
theorem beguinagelaw10_SpanNeeds.mono : ∀ a0 a1 k, LeO (beguinagelaw10_SpanNeeds.f k a0 a1) (beguinagelaw10_SpanNeeds.f (k + 1) a0 a1) := by
  intro a0 a1 k
  have ih0 := beguinagelaw10_SpanNeeds.mono_l k
  unfold beguinagelaw10_SpanNeeds.f
  repeat' first
      | (with_reducible exact ih0 _ _ _)
      | (with_reducible exact beguinagelaw10_awake.mono _)
      | (with_reducible exact LeO.refl _)
      | (with_reducible exact LeO.none _)
      | (with_reducible refine LeO.ite ?_ ?_)
      | (with_reducible refine LeO.bind ?_ (fun _ => ?_))
      | exact ih0 _ _ _
      | exact beguinagelaw10_awake.mono _
      | exact LeO.none _
      | refine LeO.ite ?_ ?_
      | refine LeO.bind ?_ (fun _ => ?_)
set_option maxHeartbeats 8000000 in
set_option maxRecDepth 100000 in
theorem beguinagelaw10_SpanNeeds.calls (k : Nat) (A0 : Option Addr) (c0 : Nat) (l0 : List Int) (A1 : Option Addr) (c1 : Nat) (l1 : List Int) (r : Bool) (w : World) (hr0 : Kd.C (Kd.int .i64) w A0 l0.length l0) (hc0 : l0.length ≤ c0) (hr1 : Kd.C (Kd.int .i64) w A1 l1.length l1) (hc1 : l1.length ≤ c1) (h : beguinagelaw10_SpanNeeds.f k l0 l1 = some r) (hr_ : Aside0 (r = true)) :
    Calls Try.prog 4 #[.slice A0 l0.length c0, .slice A1 l1.length c1] w fun e w' => e = .returned (.bool r) ∧ Below w.heap.size w w' := by
  have HR0 := Aside0.mk hr0
  have HC0 := Aside0.mk hc0
  clear hr0 hc0
  have HR1 := Aside0.mk hr1
  have HC1 := Aside0.mk hc1
  clear hr1 hc1
  have HB := Aside0.mk (Below.refl w.heap.size w)
  have H : (if (l0.length : Int) > 200 then (beguinagelaw10_SpanNeeds.j0 k l0 l1 true) else (beguinagelaw10_SpanNeeds.j0 k l0 l1 (decide ((l1.length : Int) > 200)))) = some r := h
  clear h
  have HC3 := Aside0.mk H
  clear H
  go_enter Try.func4, Try.ntmps4
  go_upto_region 1 with (fail)
  go_cut [15] (fun v15 wc => ∃ (kq : Nat) (x15_2 : Bool), v15 = .bool x15_2 ∧ Aside0 (beguinagelaw10_SpanNeeds.j0 kq l0 l1 x15_2 = some r) ∧ Aside0 (kq ≤ k) ∧ Aside0 (Below w.heap.size w wc))
  case first =>
    have H := HC3.out
    clear HC3
    by_cases c4 : (l0.length : Int) > 200
    · rw [if_pos c4] at H
      have c4b0 : decide (200 < (l0.length : Int)) = true := decide_eq_true c4
      have c4b1 : decide (200 < l0.length) = true := decide_eq_true (by omega)
      clear c4
      (first | rw [c4b0] | (simp only [i64_w, i32_w]; rw [c4b0]) | skip)
      have H' := Aside0.mk H
      clear H
      go_wp2
      go_meet
      case rel => exact ⟨_, (true), (by first | rfl | (simp; done) | (simp [*]; done)), H', ⟨by first | omega | exact Nat.le_refl _⟩, ⟨by repeat (first | (with_reducible first | exact HB.out | apply below_alloc | apply pw_below_drewN | apply below_drew1) | exact HB.out)⟩⟩
    · rw [if_neg c4] at H
      have c4b0 : decide (200 < (l0.length : Int)) = false := decide_eq_false c4
      have c4b1 : decide (200 < l0.length) = false := decide_eq_false (by omega)
      clear c4
      (first | rw [c4b0] | (simp only [i64_w, i32_w]; rw [c4b0]) | skip)
      have H' := Aside0.mk H
      clear H
      go_wp2
      go_meet
      case rel => exact ⟨_, (decide ((l1.length : Int) > 200)), (by first | rfl | (simp; done) | (simp [*]; done)), H', ⟨by first | omega | exact Nat.le_refl _⟩, ⟨by repeat (first | (with_reducible first | exact HB.out | apply below_alloc | apply pw_below_drewN | apply below_drew1) | exact HB.out)⟩⟩
  case rest =>
    clear HC3
    try clear c1
    try clear p2
    try clear c4
    try clear c4b0
    try clear c4b1
    obtain ⟨kq, x15_2, rfl, HA, HJ2, HB⟩ := hcut
    cases kq with
    | zero => exact absurd HA.out (by simp [beguinagelaw10_SpanNeeds.j0])
    | succ kj2 =>
      have H := HA.out
      clear HA
      simp only [beguinagelaw10_SpanNeeds.j0] at H
      by_cases c5 : x15_2 = true
      · subst c5
        have H1 : ((beguinagelaw10_awake.f kj2).bind fun t113 => (some t113)) = some r := by rw [if_pos rfl] at H; exact H
        clear H
        have H := H1
        clear H1
        replace H := Option.bind_eq_some_iff.mp H
        obtain ⟨t113, A60, H⟩ := H
        replace H : (some t113) = some r := H
        have A6 := Aside0.mk A60
        clear A60
        obtain rfl := Option.some.inj H
        go_wp2_with (first | ((with_reducible refine gate_callee (f := 18) rfl ?_); refine goesL_ (some 16) rfl rfl Try.func18 (by kernel_rfl) rfl #[] rfl (by (try simp only [List.map_toArray, List.map_cons, List.map_nil]); first | done | rfl | (simp only [List.length_drop, List.length_take]; rfl)) ?_; (with_reducible refine (beguinagelaw10_awake.calls kj2  t113 _ A6.out).mono ?_); rintro e w7 ⟨rfl, hb⟩; refine ⟨_, rfl, ?_⟩; have n0_ := Aside0.mk (below_step (by repeat (first | (with_reducible first | exact HB.out | apply below_alloc | apply pw_below_drewN | apply below_drew1) | exact HB.out)) hb); clear HB; have HB := n0_; clear n0_; (try clear hb); (try clear hb2); (try clear hk); (try clear hi)))
        go_ret
        exact ⟨by first | rfl | (simp [errW_none, errW_some] <;> rfl) | (simp [*, errW_none, errW_some] <;> rfl), by repeat (first | (with_reducible first | exact HB.out | apply below_alloc | apply pw_below_drewN | apply below_drew1) | exact HB.out)⟩
      · replace c5 := Bool.eq_false_iff.mpr c5
        subst c5
        have H1 : ((span_Inds.f l0).bind fun t114 => ((span_Inds.f l1).bind fun t115 => (if ([] : List Int).length + l0.length < 17592186044416 then ((some (([] : List Int) ++ l0 : List Int)).bind fun y116 => (if y116.length + l1.length < 17592186044416 then ((span_Inds.f (y116 ++ l1)).bind fun t122 => (if t114 ≥ 0 then (if t122 ≥ (mx t114 t115) then (if t122 ≤ (wrap64 (t114 + t115)) then (if t122 ≤ 10 then ((some (([] : List Int) ++ l0 : List Int)).bind fun y123 => (if y123.length + l0.length < 17592186044416 then ((span_Inds.f (y123 ++ l0)).bind fun t129 => (if t129 = t114 then ((beguinagelaw10_awake.f kj2).bind fun t130 => (some t130)) else (some false))) else (none))) else (some false)) else (some false)) else (some false)) else (some false))) else (none))) else (none)))) = some r := by rw [if_neg (show ¬ (false = true) by decide)] at H; exact H
        clear H
        have H := H1
        clear H1
        replace H := Option.bind_eq_some_iff.mp H
        obtain ⟨t114, A80, H⟩ := H
        replace H : ((span_Inds.f l1).bind fun t115 => (if ([] : List Int).length + l0.length < 17592186044416 then ((some (([] : List Int) ++ l0 : List Int)).bind fun y116 => (if y116.length + l1.length < 17592186044416 then ((span_Inds.f (y116 ++ l1)).bind fun t122 => (if t114 ≥ 0 then (if t122 ≥ (mx t114 t115) then (if t122 ≤ (wrap64 (t114 + t115)) then (if t122 ≤ 10 then ((some (([] : List Int) ++ l0 : List Int)).bind fun y123 => (if y123.length + l0.length < 17592186044416 then ((span_Inds.f (y123 ++ l0)).bind fun t129 => (if t129 = t114 then ((beguinagelaw10_awake.f kj2).bind fun t130 => (some t130)) else (some false))) else (none))) else (some false)) else (some false)) else (some false)) else (some false))) else (none))) else (none))) = some r := H
        have A8 := Aside0.mk A80
        clear A80
        replace H := Option.bind_eq_some_iff.mp H
        obtain ⟨t115, A90, H⟩ := H
        replace H : (if ([] : List Int).length + l0.length < 17592186044416 then ((some (([] : List Int) ++ l0 : List Int)).bind fun y116 => (if y116.length + l1.length < 17592186044416 then ((span_Inds.f (y116 ++ l1)).bind fun t122 => (if t114 ≥ 0 then (if t122 ≥ (mx t114 t115) then (if t122 ≤ (wrap64 (t114 + t115)) then (if t122 ≤ 10 then ((some (([] : List Int) ++ l0 : List Int)).bind fun y123 => (if y123.length + l0.length < 17592186044416 then ((span_Inds.f (y123 ++ l0)).bind fun t129 => (if t129 = t114 then ((beguinagelaw10_awake.f kj2).bind fun t130 => (some t130)) else (some false))) else (none))) else (some false)) else (some false)) else (some false)) else (some false))) else (none))) else (none)) = some r := H
        have A9 := Aside0.mk A90
        clear A90
        by_cases c10 : ([] : List Int).length + l0.length < 17592186044416
        · rw [if_pos c10] at H
          have LMc10 := Aside0.mk c10
          clear c10
          obtain ⟨y116, hy116⟩ : ∃ y_ : List Int, y_ = (([] : List Int) ++ l0) := ⟨_, rfl⟩
          replace H : (if y116.length + l1.length < 17592186044416 then ((span_Inds.f (y116 ++ l1)).bind fun t122 => (if t114 ≥ 0 then (if t122 ≥ (mx t114 t115) then (if t122 ≤ (wrap64 (t114 + t115)) then (if t122 ≤ 10 then ((some (([] : List Int) ++ l0 : List Int)).bind fun y123 => (if y123.length + l0.length < 17592186044416 then ((span_Inds.f (y123 ++ l0)).bind fun t129 => (if t129 = t114 then ((beguinagelaw10_awake.f kj2).bind fun t130 => (some t130)) else (some false))) else (none))) else (some false)) else (some false)) else (some false)) else (some false))) else (none)) = some r := by first | (rw [hy116]; with_reducible exact H) | (have H2_ := (Option.bind_some _ _).symm.trans H; rw [hy116]; with_reducible exact H2_) | (have H2_ := (Option.bind_some _ _).symm.trans H; with_reducible exact H2_) | with_reducible exact H | (rw [hy116]; exact H) | exact H
          have Ny116 := Aside0.mk hy116
          clear hy116
          by_cases c11 : y116.length + l1.length < 17592186044416
          · rw [if_pos c11] at H
            have LMc11 := Aside0.mk c11
            clear c11
            obtain ⟨y119, hy119⟩ : ∃ y_ : List Int, y_ = (y116 ++ l1) := ⟨_, rfl⟩
            replace H : ((span_Inds.f y119).bind fun t122 => (if t114 ≥ 0 then (if t122 ≥ (mx t114 t115) then (if t122 ≤ (wrap64 (t114 + t115)) then (if t122 ≤ 10 then ((some (([] : List Int) ++ l0 : List Int)).bind fun y123 => (if y123.length + l0.length < 17592186044416 then ((span_Inds.f (y123 ++ l0)).bind fun t129 => (if t129 = t114 then ((beguinagelaw10_awake.f kj2).bind fun t130 => (some t130)) else (some false))) else (none))) else (some false)) else (some false)) else (some false)) else (some false))) = some r := by first | (rw [hy119]; with_reducible exact H) | (have H2_ := (Option.bind_some _ _).symm.trans H; rw [hy119]; with_reducible exact H2_) | (have H2_ := (Option.bind_some _ _).symm.trans H; with_reducible exact H2_) | with_reducible exact H | (rw [hy119]; exact H) | exact H
            have Ny119 := Aside0.mk hy119
            clear hy119
            replace H := Option.bind_eq_some_iff.mp H
            obtain ⟨t122, A120, H⟩ := H
            replace H : (if t114 ≥ 0 then (if t122 ≥ (mx t114 t115) then (if t122 ≤ (wrap64 (t114 + t115)) then (if t122 ≤ 10 then ((some (([] : List Int) ++ l0 : List Int)).bind fun y123 => (if y123.length + l0.length < 17592186044416 then ((span_Inds.f (y123 ++ l0)).bind fun t129 => (if t129 = t114 then ((beguinagelaw10_awake.f kj2).bind fun t130 => (some t130)) else (some false))) else (none))) else (some false)) else (some false)) else (some false)) else (some false)) = some r := H
            have A12 := Aside0.mk A120
            clear A120
            by_cases c13 : t114 ≥ 0
            · rw [if_pos c13] at H
              have c13b0 : decide (0 ≤ t114) = true := decide_eq_true c13
              clear c13
              obtain ⟨ji14, hji14⟩ : ∃ j_ : Int, (mx t114 t115) = j_ := ⟨_, rfl⟩
              replace H : (if t122 ≥ (ji14) then (if t122 ≤ (wrap64 (t114 + t115)) then (if t122 ≤ 10 then ((some (([] : List Int) ++ l0 : List Int)).bind fun y123 => (if y123.length + l0.length < 17592186044416 then ((span_Inds.f (y123 ++ l0)).bind fun t129 => (if t129 = t114 then ((beguinagelaw10_awake.f kj2).bind fun t130 => (some t130)) else (some false))) else (none))) else (some false)) else (some false)) else (some false)) = some r := by first | (rw [hji14] at H; exact H) | (simp only [hji14] at H ⊢; exact H)
              (try rw [hji14] at A8)
              (try rw [hji14] at A9)
              (try rw [hji14] at A12)
              have hji14_ : (if t114 < t115 then t115 else t114) = ji14 := hji14
              by_cases c15 : t122 ≥ (ji14)
              · rw [if_pos c15] at H
                have c15b0 : decide ((ji14) ≤ t122) = true := decide_eq_true c15
                clear c15
                by_cases c16 : t122 ≤ (wrap64 (t114 + t115))
                · rw [if_pos c16] at H
                  have c16b0 : decide (t122 ≤ (wrap64 (t114 + t115))) = true := decide_eq_true c16
                  clear c16
                  by_cases c17 : t122 ≤ 10
                  · rw [if_pos c17] at H
                    have c17b0 : decide (t122 ≤ 10) = true := decide_eq_true c17
                    clear c17
                    obtain ⟨y123, hy123⟩ : ∃ y_ : List Int, y_ = (([] : List Int) ++ l0) := ⟨_, rfl⟩
                    replace H : (if y123.length + l0.length < 17592186044416 then ((span_Inds.f (y123 ++ l0)).bind fun t129 => (if t129 = t114 then ((beguinagelaw10_awake.f kj2).bind fun t130 => (some t130)) else (some false))) else (none)) = some r := by first | (rw [hy123]; with_reducible exact H) | (have H2_ := (Option.bind_some _ _).symm.trans H; rw [hy123]; with_reducible exact H2_) | (have H2_ := (Option.bind_some _ _).symm.trans H; with_reducible exact H2_) | with_reducible exact H | (rw [hy123]; exact H) | exact H
                    have Ny123 := Aside0.mk hy123
                    clear hy123
                    by_cases c18 : y123.length + l0.length < 17592186044416
                    · rw [if_pos c18] at H
                      have LMc18 := Aside0.mk c18
                      clear c18
                      obtain ⟨y126, hy126⟩ : ∃ y_ : List Int, y_ = (y123 ++ l0) := ⟨_, rfl⟩
                      replace H : ((span_Inds.f y126).bind fun t129 => (if t129 = t114 then ((beguinagelaw10_awake.f kj2).bind fun t130 => (some t130)) else (some false))) = some r := by first | (rw [hy126]; with_reducible exact H) | (have H2_ := (Option.bind_some _ _).symm.trans H; rw [hy126]; with_reducible exact H2_) | (have H2_ := (Option.bind_some _ _).symm.trans H; with_reducible exact H2_) | with_reducible exact H | (rw [hy126]; exact H) | exact H
                      have Ny126 := Aside0.mk hy126
                      clear hy126
                      replace H := Option.bind_eq_some_iff.mp H
                      obtain ⟨t129, A190, H⟩ := H
                      replace H : (if t129 = t114 then ((beguinagelaw10_awake.f kj2).bind fun t130 => (some t130)) else (some false)) = some r := H
                      have A19 := Aside0.mk A190
                      clear A190
                      by_cases c20 : t129 = t114
                      · rw [if_pos c20] at H
                        have c20b0 : (t129 == t114) = true := beq_iff_eq.mpr c20
                        have c20b1 : (t129 != t114) = false := bne_eq_false_iff_eq.mpr c20
                        clear c20
                        replace H := Option.bind_eq_some_iff.mp H
                        obtain ⟨t130, A210, H⟩ := H
                        replace H : (some t130) = some r := H
                        have A21 := Aside0.mk A210
                        clear A210
                        obtain rfl := Option.some.inj H
                        go_wp2_with (first | ((with_reducible refine gate_callee (f := 19) rfl ?_); refine goesL_ (some 18) rfl rfl Try.func19 (by kernel_rfl) rfl #[.slice A0 l0.length c0] rfl (by (try simp only [List.map_toArray, List.map_cons, List.map_nil]); first | done | rfl | (simp only [List.length_drop, List.length_take]; rfl)) ?_; (with_reducible refine (span_Inds.calls _ _ l0 t114 _ ?side1 ?side2 A8.out).mono ?_); (case side1 => repeat (first | exact (Kd.C_below HR0.out HB.out) | (with_reducible refine Kd.C_alloc ?_ _) | (with_reducible refine Kd.C_drewN ?_ _) | (with_reducible refine Kd.C_drew ?_))); (case side2 => exact HC0.out); rintro e w22 ⟨rfl, hb⟩; refine ⟨_, rfl, ?_⟩; have n0_ := Aside0.mk (below_step (by repeat (first | (with_reducible first | exact HB.out | apply below_alloc | apply pw_below_drewN | apply below_drew1) | exact HB.out)) hb); clear HB; have HB := n0_; clear n0_; (try clear hb); (try clear hb2); (try clear hk); (try clear hi)) | ((with_reducible refine gate_callee (f := 19) rfl ?_); refine goesL_ (some 20) rfl rfl Try.func19 (by kernel_rfl) rfl #[.slice A1 l1.length c1] rfl (by (try simp only [List.map_toArray, List.map_cons, List.map_nil]); first | done | rfl | (simp only [List.length_drop, List.length_take]; rfl)) ?_; (with_reducible refine (span_Inds.calls _ _ l1 t115 _ ?side1 ?side2 A9.out).mono ?_); (case side1 => repeat (first | exact (Kd.C_below HR1.out HB.out) | (with_reducible refine Kd.C_alloc ?_ _) | (with_reducible refine Kd.C_drewN ?_ _) | (with_reducible refine Kd.C_drew ?_))); (case side2 => exact HC1.out); rintro e w23 ⟨rfl, hb⟩; refine ⟨_, rfl, ?_⟩; have n0_ := Aside0.mk (below_step (by repeat (first | (with_reducible first | exact HB.out | apply below_alloc | apply pw_below_drewN | apply below_drew1) | exact HB.out)) hb); clear HB; have HB := n0_; clear n0_; (try clear hb); (try clear hb2); (try clear hk); (try clear hi)) | ((with_reducible refine gate_builtin (b := .append) (xs := #[.const (.slice none 0 0), .tmp 21]) rfl ?_); (try (refine gate_guard (by rfl) ?_; dsimp only)); at_builtin; refine Kd.R_append_rows (Kd.int .i64) (w0 := w) w.heap.size rfl (.const (.slice none 0 0)) (.tmp 21) 22 3 (.int .i64 0) 8 rfl Try.underlying22 info3 rfl (by decide) (by omega) (.slice none 0 0) ([] : List Int) l0 _ _ _ (fun _ => True) (fun _ => False) rfl rfl ?aO ?aR (fun _ _ h => h) (fun _ h => h.elim) ?aF ?aB ?aS ?aL ?_; (case aR => repeat (first | exact (Kd.C_below HR0.out HB.out) | (with_reducible refine Kd.C_alloc ?_ _) | (with_reducible refine Kd.C_drewN ?_ _) | (with_reducible refine Kd.C_drew ?_))); (case aB => exact (by repeat (first | (with_reducible first | exact HB.out | apply below_alloc | apply pw_below_drewN | apply below_drew1) | exact HB.out))); (case aF => exact (fun _ _ => trivial)); (case aO => exact ((Kd.R_nil _ _ _ _ (fun _ => True)))); (case aS => exact (below_size (by repeat (first | (with_reducible first | exact HB.out | apply below_alloc | apply pw_below_drewN | apply below_drew1) | exact HB.out)))); (case aL => have := LMc10.out; omega); intro v117 w24 ho hb hg hat; rw [← Ny116.out] at ho; have n0_ := Aside0.mk (hb); have n1_ := Aside0.mk (ho); clear HB; have HB := n0_; have HO118 := n1_; clear n0_ n1_; clear ho hb hg hat) | ((with_reducible refine gate_builtin (b := .append) (xs := #[.tmp 22, .tmp 23]) rfl ?_); (try (refine gate_guard (by rfl) ?_; dsimp only)); at_builtin; refine Kd.R_append_rows (Kd.int .i64) (w0 := w) w.heap.size rfl (.tmp 22) (.tmp 23) 22 3 (.int .i64 0) 8 rfl Try.underlying22 info3 rfl (by decide) (by omega) v117 y116 l1 _ _ _ (fun _ => True) (fun _ => False) rfl rfl ?aO ?aR (fun _ _ h => h) (fun _ h => h.elim) ?aF ?aB ?aS ?aL ?_; (case aR => repeat (first | exact (Kd.C_below HR1.out HB.out) | (with_reducible refine Kd.C_alloc ?_ _) | (with_reducible refine Kd.C_drewN ?_ _) | (with_reducible refine Kd.C_drew ?_))); (case aB => exact (by repeat (first | (with_reducible first | exact HB.out | apply below_alloc | apply pw_below_drewN | apply below_drew1) | exact HB.out))); (case aF => exact (fun _ _ => trivial)); (case aO => exact (by (with_reducible repeat (first | apply Kd.R_alloc | apply Kd.R_drewN | apply Kd.R_drew)); exact HO118.out)); (case aS => exact (below_size (by repeat (first | (with_reducible first | exact HB.out | apply below_alloc | apply pw_below_drewN | apply below_drew1) | exact HB.out)))); (case aL => have := LMc11.out; omega); intro v120 w25 ho hb hg hat; rw [← Ny119.out] at ho; have n0_ := Aside0.mk (hb); have n1_ := Aside0.mk (ho); clear HB; clear HO118; have HB := n0_; have HO121 := n1_; clear n0_ n1_; clear ho hb hg hat; obtain ⟨Ao26, co26, eo26⟩ := Kd.R_slice HO121.out; subst eo26) | ((with_reducible refine gate_callee (f := 19) rfl ?_); refine goesL_ (some 25) rfl rfl Try.func19 (by kernel_rfl) rfl #[.slice Ao26 y119.length co26] rfl (by (try simp only [List.map_toArray, List.map_cons, List.map_nil]); first | done | rfl | (simp only [List.length_drop, List.length_take]; rfl)) ?_; (with_reducible refine (span_Inds.calls _ _ y119 t122 _ ?side1 ?side2 A12.out).mono ?_); (case side1 => repeat (first | exact (Kd.R_reads' HO121.out).2.2 | (with_reducible refine Kd.C_alloc ?_ _) | (with_reducible refine Kd.C_drewN ?_ _) | (with_reducible refine Kd.C_drew ?_))); (case side2 => exact (Kd.R_reads' HO121.out).2.1); rintro e w27 ⟨rfl, hb⟩; refine ⟨_, rfl, ?_⟩; have n0_ := Aside0.mk (Kd.R_below (by (with_reducible repeat (first | apply Kd.R_alloc | apply Kd.R_drewN | apply Kd.R_drew)); exact HO121.out) hb); have n1_ := Aside0.mk (below_step (by repeat (first | (with_reducible first | exact HB.out | apply below_alloc | apply pw_below_drewN | apply below_drew1) | exact HB.out)) hb); clear HO121; clear HB; have HO121 := n0_; have HB := n1_; clear n0_ n1_; (try clear hb); (try clear hb2); (try clear hk); (try clear hi)) | ((with_reducible refine gate_builtin (b := .append) (xs := #[.const (.slice none 0 0), .tmp 47]) rfl ?_); (try (refine gate_guard (by rfl) ?_; dsimp only)); at_builtin; refine Kd.R_append_rows (Kd.int .i64) (w0 := w) w.heap.size rfl (.const (.slice none 0 0)) (.tmp 47) 22 3 (.int .i64 0) 8 rfl Try.underlying22 info3 rfl (by decide) (by omega) (.slice none 0 0) ([] : List Int) l0 _ _ _ (fun k_ => some k_ ≠ (.slice Ao26 y119.length co26 : Value).ownBlock) (fun _ => False) rfl rfl ?aO ?aR (fun _ _ h => h) (fun _ h => h.elim) ?aF ?aB ?aS ?aL ?_; (case aR => repeat (first | exact (Kd.C_below HR0.out HB.out) | (with_reducible refine Kd.C_alloc ?_ _) | (with_reducible refine Kd.C_drewN ?_ _) | (with_reducible refine Kd.C_drew ?_))); (case aB => exact (by repeat (first | (with_reducible first | exact HB.out | apply below_alloc | apply pw_below_drewN | apply below_drew1) | exact HB.out))); (case aF => exact (fun k_ hk => Kd.fresh' (Kd.R_lt (by (with_reducible repeat (first | apply Kd.R_alloc | apply Kd.R_drewN | apply Kd.R_drew)); exact HO121.out)) k_ hk)); (case aO => exact ((Kd.R_nil _ _ _ _ (fun k_ => some k_ ≠ (.slice Ao26 y119.length co26 : Value).ownBlock)))); (case aS => exact (below_size (by repeat (first | (with_reducible first | exact HB.out | apply below_alloc | apply pw_below_drewN | apply below_drew1) | exact HB.out)))); (case aL => have := LMc10.out; omega); intro v124 w28 ho hb hg hat; rw [← Ny123.out] at ho; have n0_ := Aside0.mk (Kd.R_after (Kd.R_apart_nil (by (with_reducible repeat (first | apply Kd.R_alloc | apply Kd.R_drewN | apply Kd.R_drew)); exact HO121.out)) hg hat); have n1_ := Aside0.mk (hb); have n2_ := Aside0.mk (ho); clear HO121; clear HB; have HO121 := n0_; have HB := n1_; have HO125 := n2_; clear n0_ n1_ n2_; clear ho hb hg hat) | ((with_reducible refine gate_builtin (b := .append) (xs := #[.tmp 48, .tmp 49]) rfl ?_); (try (refine gate_guard (by rfl) ?_; dsimp only)); at_builtin; refine Kd.R_append_rows (Kd.int .i64) (w0 := w) w.heap.size rfl (.tmp 48) (.tmp 49) 22 3 (.int .i64 0) 8 rfl Try.underlying22 info3 rfl (by decide) (by omega) v124 y123 l0 _ _ _ (fun k_ => some k_ ≠ (.slice Ao26 y119.length co26 : Value).ownBlock) (fun _ => False) rfl rfl ?aO ?aR (fun _ _ h => h) (fun _ h => h.elim) ?aF ?aB ?aS ?aL ?_; (case aR => repeat (first | exact (Kd.C_below HR0.out HB.out) | (with_reducible refine Kd.C_alloc ?_ _) | (with_reducible refine Kd.C_drewN ?_ _) | (with_reducible refine Kd.C_drew ?_))); (case aB => exact (by repeat (first | (with_reducible first | exact HB.out | apply below_alloc | apply pw_below_drewN | apply below_drew1) | exact HB.out))); (case aF => exact (fun k_ hk => Kd.fresh' (Kd.R_lt (by (with_reducible repeat (first | apply Kd.R_alloc | apply Kd.R_drewN | apply Kd.R_drew)); exact HO121.out)) k_ hk)); (case aO => exact (by (with_reducible repeat (first | apply Kd.R_alloc | apply Kd.R_drewN | apply Kd.R_drew)); exact HO125.out)); (case aS => exact (below_size (by repeat (first | (with_reducible first | exact HB.out | apply below_alloc | apply pw_below_drewN | apply below_drew1) | exact HB.out)))); (case aL => have := LMc18.out; omega); intro v127 w29 ho hb hg hat; rw [← Ny126.out] at ho; have n0_ := Aside0.mk (Kd.R_after (ok := (fun _ => True)) (by (with_reducible repeat (first | apply Kd.R_alloc | apply Kd.R_drewN | apply Kd.R_drew)); exact HO121.out) hg hat); have n1_ := Aside0.mk (hb); have n2_ := Aside0.mk (ho); clear HO121; clear HB; clear HO125; have HO121 := n0_; have HB := n1_; have HO128 := n2_; clear n0_ n1_ n2_; clear ho hb hg hat; obtain ⟨Ao30, co30, eo30⟩ := Kd.R_slice HO128.out; subst eo30) | (go_at_call 19; (with_reducible refine (span_Inds.calls _ _ y126 t129 _ ?side1 ?side2 A19.out).mono ?_); (case side1 => repeat (first | exact (Kd.R_reads' HO128.out).2.2 | (with_reducible refine Kd.C_alloc ?_ _) | (with_reducible refine Kd.C_drewN ?_ _) | (with_reducible refine Kd.C_drew ?_))); (case side2 => exact (Kd.R_reads' HO128.out).2.1); rintro e w31 ⟨rfl, hb⟩; have n0_ := Aside0.mk (Kd.R_below (by (with_reducible repeat (first | apply Kd.R_alloc | apply Kd.R_drewN | apply Kd.R_drew)); exact HO121.out) hb); have n1_ := Aside0.mk (Kd.R_below (by (with_reducible repeat (first | apply Kd.R_alloc | apply Kd.R_drewN | apply Kd.R_drew)); exact HO128.out) hb); have n2_ := Aside0.mk (below_step (by repeat (first | (with_reducible first | exact HB.out | apply below_alloc | apply pw_below_drewN | apply below_drew1) | exact HB.out)) hb); clear HO121; clear HO128; clear HB; have HO121 := n0_; have HO128 := n1_; have HB := n2_; clear n0_ n1_ n2_; (try clear hb); (try clear hb2); (try clear hk); (try clear hi)) | (go_at_call 18; (with_reducible refine (beguinagelaw10_awake.calls kj2  t130 _ A21.out).mono ?_); rintro e w32 ⟨rfl, hb⟩; have n0_ := Aside0.mk (Kd.R_below (by (with_reducible repeat (first | apply Kd.R_alloc | apply Kd.R_drewN | apply Kd.R_drew)); exact HO121.out) hb); have n1_ := Aside0.mk (Kd.R_below (by (with_reducible repeat (first | apply Kd.R_alloc | apply Kd.R_drewN | apply Kd.R_drew)); exact HO128.out) hb); have n2_ := Aside0.mk (below_step (by repeat (first | (with_reducible first | exact HB.out | apply below_alloc | apply pw_below_drewN | apply below_drew1) | exact HB.out)) hb); clear HO121; clear HO128; clear HB; have HO121 := n0_; have HO128 := n1_; have HB := n2_; clear n0_ n1_ n2_; (try clear hb); (try clear hb2); (try clear hk); (try clear hi)))
                        go_ret
                        exact ⟨by first | rfl | (simp [errW_none, errW_some] <;> rfl) | (simp only [← hji14]; first | rfl | (simp [errW_none, errW_some] <;> rfl)) | (simp [*, errW_none, errW_some] <;> rfl), by repeat (first | (with_reducible first | exact HB.out | apply below_alloc | apply pw_below_drewN | apply below_drew1) | exact HB.out)⟩
                      · rw [if_neg c20] at H
                        have c20b0 : (t129 == t114) = false := beq_eq_false_iff_ne.mpr c20
                        have c20b1 : (t129 != t114) = true := bne_iff_ne.mpr c20
                        obtain rfl := Option.some.inj H
                        exact absurd hr_.out (by simp)
                    · rw [if_neg c18] at H
                      exact absurd H (by simp)
                  · rw [if_neg c17] at H
                    have c17b0 : decide (t122 ≤ 10) = false := decide_eq_false c17
                    clear c17
                    obtain rfl := Option.some.inj H
                    exact absurd hr_.out (by simp)
                · rw [if_neg c16] at H
                  have c16b0 : decide (t122 ≤ (wrap64 (t114 + t115))) = false := decide_eq_false c16
                  clear c16
                  obtain rfl := Option.some.inj H
                  exact absurd hr_.out (by simp)
              · rw [if_neg c15] at H
                have c15b0 : decide ((ji14) ≤ t122) = false := decide_eq_false c15
                clear c15
                obtain rfl := Option.some.inj H
                exact absurd hr_.out (by simp)
            · rw [if_neg c13] at H
              have c13b0 : decide (0 ≤ t114) = false := decide_eq_false c13
              clear c13
              obtain rfl := Option.some.inj H
              exact absurd hr_.out (by simp)
          · rw [if_neg c11] at H
            exact absurd H (by simp)
        · rw [if_neg c10] at H
          exact absurd H (by simp)

/-- THE ONE PURE STATEMENT of beguinagelaw10_SpanNeeds: yours. -/
def beguinagelaw10_SpanNeeds.Pure : Prop := ∀ (l0 : List Int) (l1 : List Int), l0.length ≤ maxLen → l0.length * 8 ≤ 140737488351232 → (∀ x ∈ l0, (Lit.int .i64 x).wf = true) → l1.length ≤ maxLen → l1.length * 8 ≤ 140737488351232 → (∀ x ∈ l1, (Lit.int .i64 x).wf = true) → ∃ k, beguinagelaw10_SpanNeeds.f k l0 l1 = some true
theorem beguinagelaw10_SpanNeeds.walk (P : beguinagelaw10_SpanNeeds.Pure) (a0 : Option Addr) (len0 cap0 : Nat) (z0 : List Int) (a1 : Option Addr) (len1 cap1 : Nat) (z1 : List Int) (w : World) (w0 : (a0 = none ∧ len0 = 0 ∧ cap0 = 0 ∧ z0 = []) ∨ ∃ x, a0 = some x ∧ len0 ≤ cap0 ∧ cap0 ≤ maxLen ∧ z0.length = cap0 ∧ (∀ i, i < z0.length → w.cell? (x.add i) = some (.int .i64 (z0.getD i 0))) ∧ ∀ n ∈ z0, (Lit.int .i64 n).wf = true) (y0 : len0 * 8 ≤ 140737488351232) (w1 : (a1 = none ∧ len1 = 0 ∧ cap1 = 0 ∧ z1 = []) ∨ ∃ x, a1 = some x ∧ len1 ≤ cap1 ∧ cap1 ≤ maxLen ∧ z1.length = cap1 ∧ (∀ i, i < z1.length → w.cell? (x.add i) = some (.int .i64 (z1.getD i 0))) ∧ ∀ n ∈ z1, (Lit.int .i64 n).wf = true) (y1 : len1 * 8 ≤ 140737488351232) :
    Calls Try.prog 4 #[.slice a0 len0 cap0, .slice a1 len1 cap1] w fun e w' => e = .returned (.bool true) ∧ Below w.heap.size w w' := by
  obtain ⟨l0, rfl, hr0, hm0, hw0, hc0⟩ := ReadsInt.ofRowC w0
  obtain ⟨l1, rfl, hr1, hm1, hw1, hc1⟩ := ReadsInt.ofRowC w1
  obtain ⟨k, h⟩ := P l0 l1 hm0 y0 hw0 hm1 y1 hw1
  refine (beguinagelaw10_SpanNeeds.calls k _ _ l0 _ _ l1 true w (Kd.C_of_reads (d := (0 : Int)) (h1 := fun _ => rfl) hr0) hc0 (Kd.C_of_reads (d := (0 : Int)) (h1 := fun _ => rfl) hr1) hc1 h ⟨rfl⟩).mono ?_
  rintro e w' ⟨rfl, hd⟩
  exact ⟨rfl, hd⟩

end Go.Proofs.Ytbdghlneiblkcaa.PSpan
