-- Written by wip/pr.py, a program of this session's own that drives the kit's printer: not a text of print.sh.
import Derived.Test.YtbdghlneiblkcaaPSpanx0
import Derived.Test.YtbdghlneiblkcaaPSpanx1
import Derived.Test.YtbdghlneiblkcaaPSpanx2
import Derived.Test.YtbdghlneiblkcaaPSpanx4
import Derived.Test.YtbdghlneiblkcaaPSpanx5
import Derived.Test.YtbdghlneiblkcaaSpanInds
namespace Go.Proofs.Ytbdghlneiblkcaa.PSpan
open Go.RowKit Go.Proofs.YtbdghlneiblkcaaW.PrintWords Go.Proofs.YtbdghlneiblkcaaW.PrintLast Go.Proofs.YtbdghlneiblkcaaW.PrintMore
attribute [local go_sem] max2_int min2_int max_two min_two max_three min_three max_four min_four   -- for this text's walks alone
set_option linter.unusedVariables false
set_option linter.unusedSimpArgs false

/-! ### beguinagelaw10_SpanCounts: function 5 -/
mutual
def beguinagelaw10_SpanCounts.l0 : Nat → Int → Int → List Int → Int → Option (Bool)
  | 0, _, _, _, _ => none
  | k + 1, x5, x6, x7, x8 => if x8 < x5 then ((some (([x8, x8] : List Int) : List Int)).bind fun y133 => (if x7.length + y133.length < 17592186044416 then (beguinagelaw10_SpanCounts.l0 k x5 x6 (x7 ++ y133) (wrap64 (x8 + 1))) else (none))) else (if x5 > 12 then (beguinagelaw10_SpanCounts.j1 k x5 x6 x7 1) else (beguinagelaw10_SpanCounts.j1 k x5 x6 x7 0))
def beguinagelaw10_SpanCounts.j1 : Nat → Int → Int → List Int → Int → Option (Bool)
  | 0, _, _, _, _ => none
  | k + 1, x5, x6, x7, x9 => if x5 > 76 then (beguinagelaw10_SpanCounts.j2 k x5 x6 x7 (wrap64 ((wrap64 (x9 + 1)) + (wrap64 (Int.tdiv (wrap64 ((wrap64 ((wrap64 ((wrap64 (x5 - 12)) - 64)) + 64)) - 1)) 64))))) else (beguinagelaw10_SpanCounts.j2 k x5 x6 x7 x9)
def beguinagelaw10_SpanCounts.j2 : Nat → Int → Int → List Int → Int → Option (Bool)
  | 0, _, _, _, _ => none
  | k + 1, x5, x6, x7, x9 => (span_Inds.f (([x6] : List Int))).bind fun t142 => ((span_Way.f k x6).bind fun bt143 => ((span_Inds.f x7).bind fun t147 => (if t147 = x9 then (if t142 = bt143.1 then ((span_Inds.f (([wrap64 ((-1) - x6), wrap64 (588 + x6)] : List Int))).bind fun t151 => (if t151 = 0 then ((span_Blocks.f (wrap64 (x5 * 256))).bind fun t152 => (if t152 = x5 then ((span_Blocks.f (wrap64 ((wrap64 (x5 * 256)) + 1))).bind fun t153 => (if t153 = (mn (wrap64 (x5 + 1)) 588) then ((span_Blocks.f (wrap64 (-x5))).bind fun t154 => (if t154 = 0 then ((beguinagelaw10_awake.f k).bind fun t155 => (some t155)) else (some false))) else (some false))) else (some false))) else (some false))) else (some false)) else (some false))))
end
def beguinagelaw10_SpanCounts.f (k : Nat) (a0 : Int) (a1 : Int) : Option (Bool) := (beguinagelaw00_Place.f a0 589).bind fun t131 => ((beguinagelaw00_Place.f a1 588).bind fun t132 => (beguinagelaw10_SpanCounts.l0 k t131 t132 ([] : List Int) 0))
theorem beguinagelaw10_SpanCounts.mono_l : ∀ k, (∀ y0 y1 y2 y3, LeO (beguinagelaw10_SpanCounts.l0 k y0 y1 y2 y3) (beguinagelaw10_SpanCounts.l0 (k + 1) y0 y1 y2 y3)) ∧ (∀ y0 y1 y2 y3, LeO (beguinagelaw10_SpanCounts.j1 k y0 y1 y2 y3) (beguinagelaw10_SpanCounts.j1 (k + 1) y0 y1 y2 y3)) ∧ (∀ y0 y1 y2 y3, LeO (beguinagelaw10_SpanCounts.j2 k y0 y1 y2 y3) (beguinagelaw10_SpanCounts.j2 (k + 1) y0 y1 y2 y3))
  | 0 => ⟨fun _ _ _ _ r h => by simp [beguinagelaw10_SpanCounts.l0] at h, fun _ _ _ _ r h => by simp [beguinagelaw10_SpanCounts.j1] at h, fun _ _ _ _ r h => by simp [beguinagelaw10_SpanCounts.j2] at h⟩
  | k + 1 => by
    obtain ⟨ih0, ih1, ih2⟩ := beguinagelaw10_SpanCounts.mono_l k
    refine ⟨?_, ?_, ?_⟩
    · intro y0 y1 y2 y3
      unfold beguinagelaw10_SpanCounts.l0
      repeat' first
      | (with_reducible exact ih0 _ _ _ _)
      | (with_reducible exact ih1 _ _ _ _)
      | (with_reducible exact ih2 _ _ _ _)
      | (with_reducible exact beguinagelaw10_awake.mono _)
      | (with_reducible exact span_Way.mono _ _)
      | (with_reducible exact LeO.refl _)
      | (with_reducible exact LeO.none _)
      | (with_reducible refine LeO.ite ?_ ?_)
      | (with_reducible refine LeO.bind ?_ (fun _ => ?_))
      | exact ih0 _ _ _ _
      | exact ih1 _ _ _ _
      | exact ih2 _ _ _ _
      | exact beguinagelaw10_awake.mono _
      | exact span_Way.mono _ _
      | exact LeO.none _
      | refine LeO.ite ?_ ?_
      | refine LeO.bind ?_ (fun _ => ?_)
    · intro y0 y1 y2 y3
      unfold beguinagelaw10_SpanCounts.j1
      repeat' first
      | (with_reducible exact ih0 _ _ _ _)
      | (with_reducible exact ih1 _ _ _ _)
      | (with_reducible exact ih2 _ _ _ _)
      | (with_reducible exact beguinagelaw10_awake.mono _)
      | (with_reducible exact span_Way.mono _ _)
      | (with_reducible exact LeO.refl _)
      | (with_reducible exact LeO.none _)
      | (with_reducible refine LeO.ite ?_ ?_)
      | (with_reducible refine LeO.bind ?_ (fun _ => ?_))
      | exact ih0 _ _ _ _
      | exact ih1 _ _ _ _
      | exact ih2 _ _ _ _
      | exact beguinagelaw10_awake.mono _
      | exact span_Way.mono _ _
      | exact LeO.none _
      | refine LeO.ite ?_ ?_
      | refine LeO.bind ?_ (fun _ => ?_)
    · intro y0 y1 y2 y3
      unfold beguinagelaw10_SpanCounts.j2
      repeat' first
      | (with_reducible exact ih0 _ _ _ _)
      | (with_reducible exact ih1 _ _ _ _)
      | (with_reducible exact ih2 _ _ _ _)
      | (with_reducible exact beguinagelaw10_awake.mono _)
      | (with_reducible exact span_Way.mono _ _)
      | (with_reducible exact LeO.refl _)
      | (with_reducible exact LeO.none _)
      | (with_reducible refine LeO.ite ?_ ?_)
      | (with_reducible refine LeO.bind ?_ (fun _ => ?_))
      | exact ih0 _ _ _ _
      | exact ih1 _ _ _ _
      | exact ih2 _ _ _ _
      | exact beguinagelaw10_awake.mono _
      | exact span_Way.mono _ _
      | exact LeO.none _
      | refine LeO.ite ?_ ?_
      | refine LeO.bind ?_ (fun _ => ?_)
theorem beguinagelaw10_SpanCounts.mono : ∀ a0 a1 k, LeO (beguinagelaw10_SpanCounts.f k a0 a1) (beguinagelaw10_SpanCounts.f (k + 1) a0 a1) := by
  intro a0 a1 k
  obtain ⟨ih0, ih1, ih2⟩ := beguinagelaw10_SpanCounts.mono_l k
  unfold beguinagelaw10_SpanCounts.f
  repeat' first
      | (with_reducible exact ih0 _ _ _ _)
      | (with_reducible exact ih1 _ _ _ _)
      | (with_reducible exact ih2 _ _ _ _)
      | (with_reducible exact beguinagelaw10_awake.mono _)
      | (with_reducible exact span_Way.mono _ _)
      | (with_reducible exact LeO.refl _)
      | (with_reducible exact LeO.none _)
      | (with_reducible refine LeO.ite ?_ ?_)
      | (with_reducible refine LeO.bind ?_ (fun _ => ?_))
      | exact ih0 _ _ _ _
      | exact ih1 _ _ _ _
      | exact ih2 _ _ _ _
      | exact beguinagelaw10_awake.mono _
      | exact span_Way.mono _ _
      | exact LeO.none _
      | refine LeO.ite ?_ ?_
      | refine LeO.bind ?_ (fun _ => ?_)
set_option maxHeartbeats 8000000 in
set_option maxRecDepth 100000 in
theorem beguinagelaw10_SpanCounts.calls (k : Nat) (a0 : Int) (a1 : Int) (r : Bool) (w : World) (h : beguinagelaw10_SpanCounts.f k a0 a1 = some r) (hr_ : Aside0 (r = true)) :
    Calls Try.prog 5 #[.int .i64 a0, .int .i64 a1] w fun e w' => e = .returned (.bool r) ∧ Below w.heap.size w w' := by
  have HB := Aside0.mk (Below.refl w.heap.size w)
  have H : ((beguinagelaw00_Place.f a0 589).bind fun t131 => ((beguinagelaw00_Place.f a1 588).bind fun t132 => (beguinagelaw10_SpanCounts.l0 k t131 t132 ([] : List Int) 0))) = some r := h
  clear h
  replace H := Option.bind_eq_some_iff.mp H
  obtain ⟨t131, A30, H⟩ := H
  replace H : ((beguinagelaw00_Place.f a1 588).bind fun t132 => (beguinagelaw10_SpanCounts.l0 k t131 t132 ([] : List Int) 0)) = some r := H
  have A3 := Aside0.mk A30
  clear A30
  replace H := Option.bind_eq_some_iff.mp H
  obtain ⟨t132, A40, H⟩ := H
  replace H : (beguinagelaw10_SpanCounts.l0 k t131 t132 ([] : List Int) 0) = some r := H
  have A4 := Aside0.mk A40
  clear A40
  have H' := Aside0.mk H
  clear H
  go_enter Try.func5, Try.ntmps5
  go_wp2_with (first | ((with_reducible refine gate_callee (f := 13) rfl ?_); refine goesL_ (some 16) rfl rfl Try.func13 (by kernel_rfl) rfl #[.int .i64 a0, .int .i64 589] rfl (by (try simp only [List.map_toArray, List.map_cons, List.map_nil]); first | done | rfl | (simp only [List.length_drop, List.length_take]; rfl)) ?_; (with_reducible refine (beguinagelaw00_Place.calls a0 589 t131 _ A3.out).mono ?_); rintro e w' ⟨rfl, ⟨nd, rfl⟩⟩; refine ⟨_, rfl, ?_⟩) | ((with_reducible refine gate_callee (f := 13) rfl ?_); refine goesL_ (some 18) rfl rfl Try.func13 (by kernel_rfl) rfl #[.int .i64 a1, .int .i64 588] rfl (by (try simp only [List.map_toArray, List.map_cons, List.map_nil]); first | done | rfl | (simp only [List.length_drop, List.length_take]; rfl)) ?_; (with_reducible refine (beguinagelaw00_Place.calls a1 588 t132 _ A4.out).mono ?_); rintro e w' ⟨rfl, ⟨nd, rfl⟩⟩; refine ⟨_, rfl, ?_⟩))
  go_loopg [7, 8] k (fun kq v7 v8 w' => ∃ (x7_1 : List Int) (x8_1 : Int), v8 = .int .i64 x8_1 ∧ Aside0 (beguinagelaw10_SpanCounts.l0 kq t131 t132 x7_1 x8_1 = some r) ∧ Aside0 (kq ≤ k) ∧ Aside0 (Kd.R (Kd.int .i64) 3 w' w.heap.size (fun _ => True) v7 x7_1) ∧ Aside0 (Below w.heap.size w w'))
  case atStart => exact ⟨(([] : List Int)), (0), (by first | rfl | (simp; done) | (simp [*]; done)), H', ⟨Nat.le_refl _⟩, ⟨by first | exact Kd.R_nil _ _ _ _ _ | exact Kd.N_nil _ _ _ _ _ | exact Kd.V_nil _ _ _ _ _ | exact Kd.Q_nil _ _ _ _ _ | exact Kd.S_nil _ _ _ _ _⟩, ⟨by repeat (first | (with_reducible first | exact HB.out | apply below_alloc | apply pw_below_drewN | apply below_drew1) | exact HB.out)⟩⟩
  case round =>
    clear H'
    try clear c1
    try clear p2
    obtain ⟨x7_1, x8_1, rfl, HA, HK1, HO_7, HB⟩ := hrel
    cases gk with
    | zero => exact absurd HA.out (by simp [beguinagelaw10_SpanCounts.l0])
    | succ k1 =>
      have H := HA.out
      clear HA
      simp only [beguinagelaw10_SpanCounts.l0] at H
      by_cases c5 : x8_1 < t131
      · rw [if_pos c5] at H
        have c5b0 : decide (x8_1 < t131) = true := decide_eq_true c5
        clear c5
        obtain ⟨y133, hy133⟩ : ∃ y_ : List Int, y_ = (([x8_1, x8_1] : List Int)) := ⟨_, rfl⟩
        replace H : (if x7_1.length + y133.length < 17592186044416 then (beguinagelaw10_SpanCounts.l0 k1 t131 t132 (x7_1 ++ y133) (wrap64 (x8_1 + 1))) else (none)) = some r := by first | (rw [hy133]; with_reducible exact H) | (have H2_ := (Option.bind_some _ _).symm.trans H; rw [hy133]; with_reducible exact H2_) | (have H2_ := (Option.bind_some _ _).symm.trans H; with_reducible exact H2_) | with_reducible exact H | (rw [hy133]; exact H) | exact H
        have Ny133 := Aside0.mk hy133
        clear hy133
        by_cases c6 : x7_1.length + y133.length < 17592186044416
        · rw [if_pos c6] at H
          have LMc6 := Aside0.mk c6
          clear c6
          obtain ⟨y136, hy136⟩ : ∃ y_ : List Int, y_ = (x7_1 ++ y133) := ⟨_, rfl⟩
          replace H : (beguinagelaw10_SpanCounts.l0 k1 t131 t132 y136 (wrap64 (x8_1 + 1))) = some r := by first | (rw [hy136]; with_reducible exact H) | (have H2_ := (Option.bind_some _ _).symm.trans H; rw [hy136]; with_reducible exact H2_) | (have H2_ := (Option.bind_some _ _).symm.trans H; with_reducible exact H2_) | with_reducible exact H | (rw [hy136]; exact H) | exact H
          have Ny136 := Aside0.mk hy136
          clear hy136
          have H' := Aside0.mk H
          clear H
          go_wp2_with (first | ((with_reducible refine gate_dst (N := 27) rfl ?_); (try (refine gate_guard (by rfl) ?_; dsimp only)); refine Kd.R_lit (Kd.int .i64) _ 3 ?hg (N := 27) ?hd (xs := ([x8_1, x8_1] : List Int)) (inner := [.int .i64 x8_1, .int .i64 x8_1]) (ok := fun _ => True) (okp := fun _ => True) ?hr ?hp (fun _ hk => hk) trivial (Below.refl _ _) (Nat.le_refl _) (by simp) ?_; (case hd => rfl); (case hg => rfl); (case hr => first | (go_simp; done) | (go_simp; rfl)); (case hp => exact (Reps.one (show Kd.M (Kd.int .i64) _ _ _ x8_1 [.int .i64 x8_1] from rfl) (Reps.one (show Kd.M (Kd.int .i64) _ _ _ x8_1 [.int .i64 x8_1] from rfl) (Reps.none _ _)))); intro v134 w7 ho8 hb hg_ hnew_; clear hg_ hnew_; (first | rw [← Ny133.out] at ho8 | (simp only [Int.reduceToNat] at ho8; rw [← Ny133.out] at ho8)); have n0_ := Aside0.mk (Kd.R_elder' (by (with_reducible repeat (first | apply Kd.R_alloc | apply Kd.R_drewN | apply Kd.R_drew)); exact HO_7.out) (Kd.R_base ho8) hb); have n1_ := Aside0.mk (Kd.R_lower (Kd.R_new' ho8 (Kd.R_lt (by (with_reducible repeat (first | apply Kd.R_alloc | apply Kd.R_drewN | apply Kd.R_drew)); exact HO_7.out))) (below_size (by repeat (first | (with_reducible first | exact HB.out | apply below_alloc | apply pw_below_drewN | apply below_drew1) | exact HB.out)))); have n2_ := Aside0.mk (below_step (by repeat (first | (with_reducible first | exact HB.out | apply below_alloc | apply pw_below_drewN | apply below_drew1) | exact HB.out)) hb); clear HO_7; clear HB; have HO_7 := n0_; have HO135 := n1_; have HB := n2_; clear n0_ n1_ n2_; clear hb ho8; obtain ⟨Ao10, co10, eo10⟩ := Kd.R_slice HO135.out; subst eo10) | ((with_reducible refine gate_builtin (b := .append) (xs := #[.tmp 24, .tmp 27]) rfl ?_); (try (refine gate_guard (by rfl) ?_; dsimp only)); at_builtin; refine Kd.R_append_rows (Kd.int .i64) (w0 := w) w.heap.size rfl (.tmp 24) (.tmp 27) 22 3 (.int .i64 0) 8 rfl Try.underlying22 info3 rfl (by decide) (by omega) u7 x7_1 y133 _ _ _ (fun k_ => some k_ ≠ (.slice Ao10 y133.length co10 : Value).ownBlock) (fun _ => False) rfl rfl ?aO ?aR (fun _ _ h => h) (fun _ h => h.elim) ?aF ?aB ?aS ?aL ?_; (case aR => repeat (first | exact (Kd.R_reads' HO135.out).2.2 | (with_reducible refine Kd.C_alloc ?_ _) | (with_reducible refine Kd.C_drewN ?_ _) | (with_reducible refine Kd.C_drew ?_))); (case aB => exact (by repeat (first | (with_reducible first | exact HB.out | apply below_alloc | apply pw_below_drewN | apply below_drew1) | exact HB.out))); (case aF => exact (fun k_ hk => Kd.fresh' (Kd.R_lt (by (with_reducible repeat (first | apply Kd.R_alloc | apply Kd.R_drewN | apply Kd.R_drew)); exact HO135.out)) k_ hk)); (case aO => exact (by (with_reducible repeat (first | apply Kd.R_alloc | apply Kd.R_drewN | apply Kd.R_drew)); exact Kd.R_mono HO_7.out (fun _ hk => hk.2))); (case aS => exact (below_size (by repeat (first | (with_reducible first | exact HB.out | apply below_alloc | apply pw_below_drewN | apply below_drew1) | exact HB.out)))); (case aL => have := LMc6.out; omega); intro v137 w9 ho hb hg hat; rw [← Ny136.out] at ho; have n0_ := Aside0.mk (Kd.R_after (ok := (fun _ => True)) (by (with_reducible repeat (first | apply Kd.R_alloc | apply Kd.R_drewN | apply Kd.R_drew)); exact HO135.out) hg hat); have n1_ := Aside0.mk (hb); have n2_ := Aside0.mk (ho); clear HO135; clear HB; clear HO_7; have HO135 := n0_; have HB := n1_; have HO138 := n2_; clear n0_ n1_ n2_; clear ho hb hg hat))
          go_roundg k1
          case measure => have := HK1.out; omega
          case rel => exact ⟨(y136), (wrap64 (x8_1 + 1)), (by first | rfl | (simp; done) | (simp [*]; done)), H', ⟨by have := HK1.out; omega⟩, ⟨by (with_reducible repeat (first | apply Kd.R_alloc | apply Kd.R_drewN | apply Kd.R_drew)); exact Kd.R_mono HO138.out (fun _ hk => trivial)⟩, ⟨by repeat (first | (with_reducible first | exact HB.out | apply below_alloc | apply pw_below_drewN | apply below_drew1) | exact HB.out)⟩⟩
        · rw [if_neg c6] at H
          exact absurd H (by simp)
      · rw [if_neg c5] at H
        have c5b0 : decide (x8_1 < t131) = false := decide_eq_false c5
        clear c5
        have HC11 := Aside0.mk H
        clear H
        go_upto_if 30 with (fail)
        go_cut [9] (fun v9 wc => ∃ (kq : Nat) (x9_10 : Int), v9 = .int .i64 x9_10 ∧ Aside0 (beguinagelaw10_SpanCounts.j1 kq t131 t132 x7_1 x9_10 = some r) ∧ Aside0 (kq ≤ k1) ∧ Aside0 (Kd.R (Kd.int .i64) 3 wc w.heap.size (fun _ => True) u7 x7_1) ∧ Aside0 (Below w.heap.size w wc))
        case first =>
          have H := HC11.out
          clear HC11
          by_cases c12 : t131 > 12
          · rw [if_pos c12] at H
            have c12b0 : decide (12 < t131) = true := decide_eq_true c12
            clear c12
            (first | rw [c12b0] | (simp only [i64_w, i32_w]; rw [c12b0]) | skip)
            have H' := Aside0.mk H
            clear H
            go_wp2
            go_meet
            case rel => exact ⟨_, (1), (by first | rfl | (simp; done) | (simp [*]; done)), H', ⟨by have := HK1.out; first | omega | exact Nat.le_refl _⟩, ⟨by (with_reducible repeat (first | apply Kd.R_alloc | apply Kd.R_drewN | apply Kd.R_drew)); exact HO_7.out⟩, ⟨by repeat (first | (with_reducible first | exact HB.out | apply below_alloc | apply pw_below_drewN | apply below_drew1) | exact HB.out)⟩⟩
          · rw [if_neg c12] at H
            have c12b0 : decide (12 < t131) = false := decide_eq_false c12
            clear c12
            (first | rw [c12b0] | (simp only [i64_w, i32_w]; rw [c12b0]) | skip)
            have H' := Aside0.mk H
            clear H
            go_wp2
            go_meet
            case rel => exact ⟨_, (0), (by first | rfl | (simp; done) | (simp [*]; done)), H', ⟨by have := HK1.out; first | omega | exact Nat.le_refl _⟩, ⟨by (with_reducible repeat (first | apply Kd.R_alloc | apply Kd.R_drewN | apply Kd.R_drew)); exact HO_7.out⟩, ⟨by repeat (first | (with_reducible first | exact HB.out | apply below_alloc | apply pw_below_drewN | apply below_drew1) | exact HB.out)⟩⟩
        case rest =>
          clear HC11
          try clear c1
          try clear p2
          try clear c5
          try clear c5b0
          try clear c6
          try clear p6
          try clear c12
          try clear c12b0
          try clear p2
          obtain ⟨kq, x9_10, rfl, HA, HJ10, HO_7, HB⟩ := hcut
          cases kq with
          | zero => exact absurd HA.out (by simp [beguinagelaw10_SpanCounts.j1])
          | succ kj10 =>
            have H := HA.out
            clear HA
            simp only [beguinagelaw10_SpanCounts.j1] at H
            have HC13 := Aside0.mk H
            clear H
            go_upto_if 32 with (fail)
            go_cut [9] (fun v9 wc => ∃ (kq : Nat) (x9_12 : Int), v9 = .int .i64 x9_12 ∧ Aside0 (beguinagelaw10_SpanCounts.j2 kq t131 t132 x7_1 x9_12 = some r) ∧ Aside0 (kq ≤ kj10) ∧ Aside0 (Kd.R (Kd.int .i64) 3 wc w.heap.size (fun _ => True) u7 x7_1) ∧ Aside0 (Below w.heap.size w wc))
            case first =>
              have H := HC13.out
              clear HC13
              by_cases c14 : t131 > 76
              · rw [if_pos c14] at H
                have c14b0 : decide (76 < t131) = true := decide_eq_true c14
                clear c14
                (first | rw [c14b0] | (simp only [i64_w, i32_w]; rw [c14b0]) | skip)
                have H' := Aside0.mk H
                clear H
                go_wp2
                go_meet
                case rel => exact ⟨_, (wrap64 ((wrap64 (x9_10 + 1)) + (wrap64 (Int.tdiv (wrap64 ((wrap64 ((wrap64 ((wrap64 (t131 - 12)) - 64)) + 64)) - 1)) 64)))), (by first | rfl | (simp; done) | (simp [*]; done)), H', ⟨by have := HK1.out; have := HJ10.out; first | omega | exact Nat.le_refl _⟩, ⟨by (with_reducible repeat (first | apply Kd.R_alloc | apply Kd.R_drewN | apply Kd.R_drew)); exact HO_7.out⟩, ⟨by repeat (first | (with_reducible first | exact HB.out | apply below_alloc | apply pw_below_drewN | apply below_drew1) | exact HB.out)⟩⟩
              · rw [if_neg c14] at H
                have c14b0 : decide (76 < t131) = false := decide_eq_false c14
                clear c14
                (first | rw [c14b0] | (simp only [i64_w, i32_w]; rw [c14b0]) | skip)
                have H' := Aside0.mk H
                clear H
                go_wp2
                go_meet
                case rel => exact ⟨_, (x9_10), (by first | rfl | (simp; done) | (simp [*]; done)), H', ⟨by have := HK1.out; have := HJ10.out; first | omega | exact Nat.le_refl _⟩, ⟨by (with_reducible repeat (first | apply Kd.R_alloc | apply Kd.R_drewN | apply Kd.R_drew)); exact HO_7.out⟩, ⟨by repeat (first | (with_reducible first | exact HB.out | apply below_alloc | apply pw_below_drewN | apply below_drew1) | exact HB.out)⟩⟩
            case rest =>
              clear HC13
              try clear c1
              try clear p2
              try clear c5
              try clear c5b0
              try clear c6
              try clear p6
              try clear c12
              try clear c12b0
              try clear c13
              try clear c14
              try clear c14b0
              try clear p2
              try clear p6
              obtain ⟨kq, x9_12, rfl, HA, HJ12, HO_7, HB⟩ := hcut
              cases kq with
              | zero => exact absurd HA.out (by simp [beguinagelaw10_SpanCounts.j2])
              | succ kj12 =>
                have H := HA.out
                clear HA
                simp only [beguinagelaw10_SpanCounts.j2] at H
                obtain ⟨y139, hy139⟩ : ∃ y_ : List Int, y_ = (([t132] : List Int)) := ⟨_, rfl⟩
                replace H : ((span_Inds.f y139).bind fun t142 => ((span_Way.f kj12 t132).bind fun bt143 => ((span_Inds.f x7_1).bind fun t147 => (if t147 = x9_12 then (if t142 = bt143.1 then ((span_Inds.f (([wrap64 ((-1) - t132), wrap64 (588 + t132)] : List Int))).bind fun t151 => (if t151 = 0 then ((span_Blocks.f (wrap64 (t131 * 256))).bind fun t152 => (if t152 = t131 then ((span_Blocks.f (wrap64 ((wrap64 (t131 * 256)) + 1))).bind fun t153 => (if t153 = (mn (wrap64 (t131 + 1)) 588) then ((span_Blocks.f (wrap64 (-t131))).bind fun t154 => (if t154 = 0 then ((beguinagelaw10_awake.f kj12).bind fun t155 => (some t155)) else (some false))) else (some false))) else (some false))) else (some false))) else (some false)) else (some false))))) = some r := by first | (rw [hy139]; with_reducible exact H) | (have H2_ := (Option.bind_some _ _).symm.trans H; rw [hy139]; with_reducible exact H2_) | (have H2_ := (Option.bind_some _ _).symm.trans H; with_reducible exact H2_) | with_reducible exact H | (rw [hy139]; exact H) | exact H
                have Ny139 := Aside0.mk hy139
                clear hy139
                replace H := Option.bind_eq_some_iff.mp H
                obtain ⟨t142, A150, H⟩ := H
                replace H : ((span_Way.f kj12 t132).bind fun bt143 => ((span_Inds.f x7_1).bind fun t147 => (if t147 = x9_12 then (if t142 = bt143.1 then ((span_Inds.f (([wrap64 ((-1) - t132), wrap64 (588 + t132)] : List Int))).bind fun t151 => (if t151 = 0 then ((span_Blocks.f (wrap64 (t131 * 256))).bind fun t152 => (if t152 = t131 then ((span_Blocks.f (wrap64 ((wrap64 (t131 * 256)) + 1))).bind fun t153 => (if t153 = (mn (wrap64 (t131 + 1)) 588) then ((span_Blocks.f (wrap64 (-t131))).bind fun t154 => (if t154 = 0 then ((beguinagelaw10_awake.f kj12).bind fun t155 => (some t155)) else (some false))) else (some false))) else (some false))) else (some false))) else (some false)) else (some false)))) = some r := H
                have A15 := Aside0.mk A150
                clear A150
                replace H := Option.bind_eq_some_iff.mp H
                obtain ⟨⟨t143, t144, t145, t146⟩, A160, H⟩ := H
                replace H : ((span_Inds.f x7_1).bind fun t147 => (if t147 = x9_12 then (if t142 = t143 then ((span_Inds.f (([wrap64 ((-1) - t132), wrap64 (588 + t132)] : List Int))).bind fun t151 => (if t151 = 0 then ((span_Blocks.f (wrap64 (t131 * 256))).bind fun t152 => (if t152 = t131 then ((span_Blocks.f (wrap64 ((wrap64 (t131 * 256)) + 1))).bind fun t153 => (if t153 = (mn (wrap64 (t131 + 1)) 588) then ((span_Blocks.f (wrap64 (-t131))).bind fun t154 => (if t154 = 0 then ((beguinagelaw10_awake.f kj12).bind fun t155 => (some t155)) else (some false))) else (some false))) else (some false))) else (some false))) else (some false)) else (some false))) = some r := H
                have A16 := Aside0.mk A160
                clear A160
                replace H := Option.bind_eq_some_iff.mp H
                obtain ⟨t147, A170, H⟩ := H
                replace H : (if t147 = x9_12 then (if t142 = t143 then ((span_Inds.f (([wrap64 ((-1) - t132), wrap64 (588 + t132)] : List Int))).bind fun t151 => (if t151 = 0 then ((span_Blocks.f (wrap64 (t131 * 256))).bind fun t152 => (if t152 = t131 then ((span_Blocks.f (wrap64 ((wrap64 (t131 * 256)) + 1))).bind fun t153 => (if t153 = (mn (wrap64 (t131 + 1)) 588) then ((span_Blocks.f (wrap64 (-t131))).bind fun t154 => (if t154 = 0 then ((beguinagelaw10_awake.f kj12).bind fun t155 => (some t155)) else (some false))) else (some false))) else (some false))) else (some false))) else (some false)) else (some false)) = some r := H
                have A17 := Aside0.mk A170
                clear A170
                by_cases c18 : t147 = x9_12
                · rw [if_pos c18] at H
                  have c18b0 : (t147 == x9_12) = true := beq_iff_eq.mpr c18
                  have c18b1 : (t147 != x9_12) = false := bne_eq_false_iff_eq.mpr c18
                  clear c18
                  by_cases c19 : t142 = t143
                  · rw [if_pos c19] at H
                    have c19b0 : (t142 == t143) = true := beq_iff_eq.mpr c19
                    have c19b1 : (t142 != t143) = false := bne_eq_false_iff_eq.mpr c19
                    clear c19
                    obtain ⟨y148, hy148⟩ : ∃ y_ : List Int, y_ = (([wrap64 ((-1) - t132), wrap64 (588 + t132)] : List Int)) := ⟨_, rfl⟩
                    replace H : ((span_Inds.f y148).bind fun t151 => (if t151 = 0 then ((span_Blocks.f (wrap64 (t131 * 256))).bind fun t152 => (if t152 = t131 then ((span_Blocks.f (wrap64 ((wrap64 (t131 * 256)) + 1))).bind fun t153 => (if t153 = (mn (wrap64 (t131 + 1)) 588) then ((span_Blocks.f (wrap64 (-t131))).bind fun t154 => (if t154 = 0 then ((beguinagelaw10_awake.f kj12).bind fun t155 => (some t155)) else (some false))) else (some false))) else (some false))) else (some false))) = some r := by first | (rw [hy148]; with_reducible exact H) | (have H2_ := (Option.bind_some _ _).symm.trans H; rw [hy148]; with_reducible exact H2_) | (have H2_ := (Option.bind_some _ _).symm.trans H; with_reducible exact H2_) | with_reducible exact H | (rw [hy148]; exact H) | exact H
                    have Ny148 := Aside0.mk hy148
                    clear hy148
                    replace H := Option.bind_eq_some_iff.mp H
                    obtain ⟨t151, A200, H⟩ := H
                    replace H : (if t151 = 0 then ((span_Blocks.f (wrap64 (t131 * 256))).bind fun t152 => (if t152 = t131 then ((span_Blocks.f (wrap64 ((wrap64 (t131 * 256)) + 1))).bind fun t153 => (if t153 = (mn (wrap64 (t131 + 1)) 588) then ((span_Blocks.f (wrap64 (-t131))).bind fun t154 => (if t154 = 0 then ((beguinagelaw10_awake.f kj12).bind fun t155 => (some t155)) else (some false))) else (some false))) else (some false))) else (some false)) = some r := H
                    have A20 := Aside0.mk A200
                    clear A200
                    by_cases c21 : t151 = 0
                    · rw [if_pos c21] at H
                      have c21b0 : (t151 == 0) = true := beq_iff_eq.mpr c21
                      have c21b1 : (t151 != 0) = false := bne_eq_false_iff_eq.mpr c21
                      clear c21
                      replace H := Option.bind_eq_some_iff.mp H
                      obtain ⟨t152, A220, H⟩ := H
                      replace H : (if t152 = t131 then ((span_Blocks.f (wrap64 ((wrap64 (t131 * 256)) + 1))).bind fun t153 => (if t153 = (mn (wrap64 (t131 + 1)) 588) then ((span_Blocks.f (wrap64 (-t131))).bind fun t154 => (if t154 = 0 then ((beguinagelaw10_awake.f kj12).bind fun t155 => (some t155)) else (some false))) else (some false))) else (some false)) = some r := H
                      have A22 := Aside0.mk A220
                      clear A220
                      by_cases c23 : t152 = t131
                      · rw [if_pos c23] at H
                        have c23b0 : (t152 == t131) = true := beq_iff_eq.mpr c23
                        have c23b1 : (t152 != t131) = false := bne_eq_false_iff_eq.mpr c23
                        clear c23
                        replace H := Option.bind_eq_some_iff.mp H
                        obtain ⟨t153, A240, H⟩ := H
                        replace H : (if t153 = (mn (wrap64 (t131 + 1)) 588) then ((span_Blocks.f (wrap64 (-t131))).bind fun t154 => (if t154 = 0 then ((beguinagelaw10_awake.f kj12).bind fun t155 => (some t155)) else (some false))) else (some false)) = some r := H
                        have A24 := Aside0.mk A240
                        clear A240
                        obtain ⟨ji25, hji25⟩ : ∃ j_ : Int, (mn (wrap64 (t131 + 1)) 588) = j_ := ⟨_, rfl⟩
                        replace H : (if t153 = (ji25) then ((span_Blocks.f (wrap64 (-t131))).bind fun t154 => (if t154 = 0 then ((beguinagelaw10_awake.f kj12).bind fun t155 => (some t155)) else (some false))) else (some false)) = some r := by first | (rw [hji25] at H; exact H) | (simp only [hji25] at H ⊢; exact H)
                        (try rw [hji25] at A15)
                        (try rw [hji25] at A16)
                        (try rw [hji25] at A17)
                        (try rw [hji25] at A20)
                        (try rw [hji25] at A22)
                        (try rw [hji25] at A24)
                        have hji25_ : (if 588 < (wrap64 (t131 + 1)) then 588 else (wrap64 (t131 + 1))) = ji25 := hji25
                        by_cases c26 : t153 = (ji25)
                        · rw [if_pos c26] at H
                          have c26b0 : (t153 == (ji25)) = true := beq_iff_eq.mpr c26
                          have c26b1 : (t153 != (ji25)) = false := bne_eq_false_iff_eq.mpr c26
                          clear c26
                          replace H := Option.bind_eq_some_iff.mp H
                          obtain ⟨t154, A270, H⟩ := H
                          replace H : (if t154 = 0 then ((beguinagelaw10_awake.f kj12).bind fun t155 => (some t155)) else (some false)) = some r := H
                          have A27 := Aside0.mk A270
                          clear A270
                          by_cases c28 : t154 = 0
                          · rw [if_pos c28] at H
                            have c28b0 : (t154 == 0) = true := beq_iff_eq.mpr c28
                            have c28b1 : (t154 != 0) = false := bne_eq_false_iff_eq.mpr c28
                            clear c28
                            replace H := Option.bind_eq_some_iff.mp H
                            obtain ⟨t155, A290, H⟩ := H
                            replace H : (some t155) = some r := H
                            have A29 := Aside0.mk A290
                            clear A290
                            obtain rfl := Option.some.inj H
                            go_wp2_with (first | ((with_reducible refine gate_dst (N := 43) rfl ?_); (try (refine gate_guard (by rfl) ?_; dsimp only)); refine Kd.R_lit (Kd.int .i64) _ 3 ?hg (N := 43) ?hd (xs := ([t132] : List Int)) (inner := [.int .i64 t132]) (ok := fun _ => True) (okp := fun _ => True) ?hr ?hp (fun _ hk => hk) trivial (Below.refl _ _) (Nat.le_refl _) (by simp) ?_; (case hd => rfl); (case hg => rfl); (case hr => first | (go_simp; done) | (go_simp; rfl)); (case hp => exact (Reps.one (show Kd.M (Kd.int .i64) _ _ _ t132 [.int .i64 t132] from rfl) (Reps.none _ _))); intro v140 w30 ho31 hb hg_ hnew_; clear hg_ hnew_; (first | rw [← Ny139.out] at ho31 | (simp only [Int.reduceToNat] at ho31; rw [← Ny139.out] at ho31)); have n0_ := Aside0.mk (Kd.R_elder' (by (with_reducible repeat (first | apply Kd.R_alloc | apply Kd.R_drewN | apply Kd.R_drew)); exact HO_7.out) (Kd.R_base ho31) hb); have n1_ := Aside0.mk (Kd.R_lower (Kd.R_new' ho31 (Kd.R_lt (by (with_reducible repeat (first | apply Kd.R_alloc | apply Kd.R_drewN | apply Kd.R_drew)); exact HO_7.out))) (below_size (by repeat (first | (with_reducible first | exact HB.out | apply below_alloc | apply pw_below_drewN | apply below_drew1) | exact HB.out)))); have n2_ := Aside0.mk (below_step (by repeat (first | (with_reducible first | exact HB.out | apply below_alloc | apply pw_below_drewN | apply below_drew1) | exact HB.out)) hb); clear HO_7; clear HB; have HO_7 := n0_; have HO141 := n1_; have HB := n2_; clear n0_ n1_ n2_; clear hb ho31; obtain ⟨Ao32, co32, eo32⟩ := Kd.R_slice HO141.out; subst eo32) | ((with_reducible refine gate_callee (f := 19) rfl ?_); refine goesL_ (some 44) rfl rfl Try.func19 (by kernel_rfl) rfl #[.slice Ao32 y139.length co32] rfl (by (try simp only [List.map_toArray, List.map_cons, List.map_nil]); first | done | rfl | (simp only [List.length_drop, List.length_take]; rfl)) ?_; (with_reducible refine (span_Inds.calls _ _ y139 t142 _ ?side1 ?side2 A15.out).mono ?_); (case side1 => repeat (first | exact (Kd.R_reads' HO141.out).2.2 | (with_reducible refine Kd.C_alloc ?_ _) | (with_reducible refine Kd.C_drewN ?_ _) | (with_reducible refine Kd.C_drew ?_))); (case side2 => exact (Kd.R_reads' HO141.out).2.1); rintro e w33 ⟨rfl, hb⟩; refine ⟨_, rfl, ?_⟩; have n0_ := Aside0.mk (Kd.R_below (by (with_reducible repeat (first | apply Kd.R_alloc | apply Kd.R_drewN | apply Kd.R_drew)); exact HO_7.out) hb); have n1_ := Aside0.mk (Kd.R_below (by (with_reducible repeat (first | apply Kd.R_alloc | apply Kd.R_drewN | apply Kd.R_drew)); exact HO141.out) hb); have n2_ := Aside0.mk (below_step (by repeat (first | (with_reducible first | exact HB.out | apply below_alloc | apply pw_below_drewN | apply below_drew1) | exact HB.out)) hb); clear HO_7; clear HO141; clear HB; have HO_7 := n0_; have HO141 := n1_; have HB := n2_; clear n0_ n1_ n2_; (try clear hb); (try clear hb2); (try clear hk); (try clear hi)) | ((with_reducible refine gate_callee (f := 20) rfl ?_); refine goesL_ (some 47) rfl rfl Try.func20 (by kernel_rfl) rfl #[.int .i64 t132] rfl (by (try simp only [List.map_toArray, List.map_cons, List.map_nil]); first | done | rfl | (simp only [List.length_drop, List.length_take]; rfl)) ?_; (with_reducible refine (span_Way.calls kj12 t132 t143 t144 t145 t146 _ A16.out).mono ?_); rintro e w34 ⟨rfl, hb⟩; refine ⟨_, rfl, ?_⟩; have n0_ := Aside0.mk (Kd.R_below (by (with_reducible repeat (first | apply Kd.R_alloc | apply Kd.R_drewN | apply Kd.R_drew)); exact HO_7.out) hb); have n1_ := Aside0.mk (Kd.R_below (by (with_reducible repeat (first | apply Kd.R_alloc | apply Kd.R_drewN | apply Kd.R_drew)); exact HO141.out) hb); have n2_ := Aside0.mk (below_step (by repeat (first | (with_reducible first | exact HB.out | apply below_alloc | apply pw_below_drewN | apply below_drew1) | exact HB.out)) hb); clear HO_7; clear HO141; clear HB; have HO_7 := n0_; have HO141 := n1_; have HB := n2_; clear n0_ n1_ n2_; (try clear hb); (try clear hb2); (try clear hk); (try clear hi); obtain ⟨Ao35, co35, eo35⟩ := Kd.R_slice HO_7.out; subst eo35) | ((with_reducible refine gate_callee (f := 19) rfl ?_); refine goesL_ (some 53) rfl rfl Try.func19 (by kernel_rfl) rfl #[.slice Ao35 x7_1.length co35] rfl (by (try simp only [List.map_toArray, List.map_cons, List.map_nil]); first | done | rfl | (simp only [List.length_drop, List.length_take]; rfl)) ?_; (with_reducible refine (span_Inds.calls _ _ x7_1 t147 _ ?side1 ?side2 A17.out).mono ?_); (case side1 => repeat (first | exact (Kd.R_reads' HO_7.out).2.2 | (with_reducible refine Kd.C_alloc ?_ _) | (with_reducible refine Kd.C_drewN ?_ _) | (with_reducible refine Kd.C_drew ?_))); (case side2 => exact (Kd.R_reads' HO_7.out).2.1); rintro e w36 ⟨rfl, hb⟩; refine ⟨_, rfl, ?_⟩; have n0_ := Aside0.mk (Kd.R_below (by (with_reducible repeat (first | apply Kd.R_alloc | apply Kd.R_drewN | apply Kd.R_drew)); exact HO_7.out) hb); have n1_ := Aside0.mk (Kd.R_below (by (with_reducible repeat (first | apply Kd.R_alloc | apply Kd.R_drewN | apply Kd.R_drew)); exact HO141.out) hb); have n2_ := Aside0.mk (below_step (by repeat (first | (with_reducible first | exact HB.out | apply below_alloc | apply pw_below_drewN | apply below_drew1) | exact HB.out)) hb); clear HO_7; clear HO141; clear HB; have HO_7 := n0_; have HO141 := n1_; have HB := n2_; clear n0_ n1_ n2_; (try clear hb); (try clear hb2); (try clear hk); (try clear hi)) | ((with_reducible refine gate_dst (N := 66) rfl ?_); (try (refine gate_guard (by rfl) ?_; dsimp only)); refine Kd.R_lit (Kd.int .i64) _ 3 ?hg (N := 66) ?hd (xs := ([wrap64 ((-1) - t132), wrap64 (588 + t132)] : List Int)) (inner := [.int .i64 (wrap64 ((-1) - t132)), .int .i64 (wrap64 (588 + t132))]) (ok := fun _ => True) (okp := fun _ => True) ?hr ?hp (fun _ hk => hk) trivial (Below.refl _ _) (Nat.le_refl _) (by simp) ?_; (case hd => rfl); (case hg => rfl); (case hr => first | (go_simp; done) | (go_simp; rfl)); (case hp => exact (Reps.one (show Kd.M (Kd.int .i64) _ _ _ (wrap64 ((-1) - t132)) [.int .i64 (wrap64 ((-1) - t132))] from rfl) (Reps.one (show Kd.M (Kd.int .i64) _ _ _ (wrap64 (588 + t132)) [.int .i64 (wrap64 (588 + t132))] from rfl) (Reps.none _ _)))); intro v149 w37 ho38 hb hg_ hnew_; clear hg_ hnew_; (first | rw [← Ny148.out] at ho38 | (simp only [Int.reduceToNat] at ho38; rw [← Ny148.out] at ho38)); have n0_ := Aside0.mk (Kd.R_elder' (by (with_reducible repeat (first | apply Kd.R_alloc | apply Kd.R_drewN | apply Kd.R_drew)); exact HO_7.out) (Kd.R_base ho38) hb); have n1_ := Aside0.mk (Kd.R_elder' (by (with_reducible repeat (first | apply Kd.R_alloc | apply Kd.R_drewN | apply Kd.R_drew)); exact HO141.out) (Kd.R_base ho38) hb); have n2_ := Aside0.mk (Kd.R_lower (Kd.R_new' (Kd.R_new' ho38 (Kd.R_lt (by (with_reducible repeat (first | apply Kd.R_alloc | apply Kd.R_drewN | apply Kd.R_drew)); exact HO_7.out))) (Kd.R_lt (by (with_reducible repeat (first | apply Kd.R_alloc | apply Kd.R_drewN | apply Kd.R_drew)); exact HO141.out))) (below_size (by repeat (first | (with_reducible first | exact HB.out | apply below_alloc | apply pw_below_drewN | apply below_drew1) | exact HB.out)))); have n3_ := Aside0.mk (below_step (by repeat (first | (with_reducible first | exact HB.out | apply below_alloc | apply pw_below_drewN | apply below_drew1) | exact HB.out)) hb); clear HO_7; clear HO141; clear HB; have HO_7 := n0_; have HO141 := n1_; have HO150 := n2_; have HB := n3_; clear n0_ n1_ n2_ n3_; clear hb ho38; obtain ⟨Ao39, co39, eo39⟩ := Kd.R_slice HO150.out; subst eo39) | (go_at_call 19; (with_reducible refine (span_Inds.calls _ _ y148 t151 _ ?side1 ?side2 A20.out).mono ?_); (case side1 => repeat (first | exact (Kd.R_reads' HO150.out).2.2 | (with_reducible refine Kd.C_alloc ?_ _) | (with_reducible refine Kd.C_drewN ?_ _) | (with_reducible refine Kd.C_drew ?_))); (case side2 => exact (Kd.R_reads' HO150.out).2.1); rintro e w40 ⟨rfl, hb⟩; have n0_ := Aside0.mk (Kd.R_below (by (with_reducible repeat (first | apply Kd.R_alloc | apply Kd.R_drewN | apply Kd.R_drew)); exact HO_7.out) hb); have n1_ := Aside0.mk (Kd.R_below (by (with_reducible repeat (first | apply Kd.R_alloc | apply Kd.R_drewN | apply Kd.R_drew)); exact HO141.out) hb); have n2_ := Aside0.mk (Kd.R_below (by (with_reducible repeat (first | apply Kd.R_alloc | apply Kd.R_drewN | apply Kd.R_drew)); exact HO150.out) hb); have n3_ := Aside0.mk (below_step (by repeat (first | (with_reducible first | exact HB.out | apply below_alloc | apply pw_below_drewN | apply below_drew1) | exact HB.out)) hb); clear HO_7; clear HO141; clear HO150; clear HB; have HO_7 := n0_; have HO141 := n1_; have HO150 := n2_; have HB := n3_; clear n0_ n1_ n2_ n3_; (try clear hb); (try clear hb2); (try clear hk); (try clear hi)) | (go_at_call 21; (with_reducible refine (span_Blocks.calls (wrap64 (t131 * 256)) t152 _ A22.out).mono ?_); rintro e w41 ⟨rfl, hb⟩; have n0_ := Aside0.mk (Kd.R_below (by (with_reducible repeat (first | apply Kd.R_alloc | apply Kd.R_drewN | apply Kd.R_drew)); exact HO_7.out) hb); have n1_ := Aside0.mk (Kd.R_below (by (with_reducible repeat (first | apply Kd.R_alloc | apply Kd.R_drewN | apply Kd.R_drew)); exact HO141.out) hb); have n2_ := Aside0.mk (Kd.R_below (by (with_reducible repeat (first | apply Kd.R_alloc | apply Kd.R_drewN | apply Kd.R_drew)); exact HO150.out) hb); have n3_ := Aside0.mk (below_step (by repeat (first | (with_reducible first | exact HB.out | apply below_alloc | apply pw_below_drewN | apply below_drew1) | exact HB.out)) hb); clear HO_7; clear HO141; clear HO150; clear HB; have HO_7 := n0_; have HO141 := n1_; have HO150 := n2_; have HB := n3_; clear n0_ n1_ n2_ n3_; (try clear hb); (try clear hb2); (try clear hk); (try clear hi)) | (go_at_call 21; (with_reducible refine (span_Blocks.calls (wrap64 ((wrap64 (t131 * 256)) + 1)) t153 _ A24.out).mono ?_); rintro e w42 ⟨rfl, hb⟩; have n0_ := Aside0.mk (Kd.R_below (by (with_reducible repeat (first | apply Kd.R_alloc | apply Kd.R_drewN | apply Kd.R_drew)); exact HO_7.out) hb); have n1_ := Aside0.mk (Kd.R_below (by (with_reducible repeat (first | apply Kd.R_alloc | apply Kd.R_drewN | apply Kd.R_drew)); exact HO141.out) hb); have n2_ := Aside0.mk (Kd.R_below (by (with_reducible repeat (first | apply Kd.R_alloc | apply Kd.R_drewN | apply Kd.R_drew)); exact HO150.out) hb); have n3_ := Aside0.mk (below_step (by repeat (first | (with_reducible first | exact HB.out | apply below_alloc | apply pw_below_drewN | apply below_drew1) | exact HB.out)) hb); clear HO_7; clear HO141; clear HO150; clear HB; have HO_7 := n0_; have HO141 := n1_; have HO150 := n2_; have HB := n3_; clear n0_ n1_ n2_ n3_; (try clear hb); (try clear hb2); (try clear hk); (try clear hi)) | (go_at_call 21; (with_reducible refine (span_Blocks.calls (wrap64 (-t131)) t154 _ A27.out).mono ?_); rintro e w43 ⟨rfl, hb⟩; have n0_ := Aside0.mk (Kd.R_below (by (with_reducible repeat (first | apply Kd.R_alloc | apply Kd.R_drewN | apply Kd.R_drew)); exact HO_7.out) hb); have n1_ := Aside0.mk (Kd.R_below (by (with_reducible repeat (first | apply Kd.R_alloc | apply Kd.R_drewN | apply Kd.R_drew)); exact HO141.out) hb); have n2_ := Aside0.mk (Kd.R_below (by (with_reducible repeat (first | apply Kd.R_alloc | apply Kd.R_drewN | apply Kd.R_drew)); exact HO150.out) hb); have n3_ := Aside0.mk (below_step (by repeat (first | (with_reducible first | exact HB.out | apply below_alloc | apply pw_below_drewN | apply below_drew1) | exact HB.out)) hb); clear HO_7; clear HO141; clear HO150; clear HB; have HO_7 := n0_; have HO141 := n1_; have HO150 := n2_; have HB := n3_; clear n0_ n1_ n2_ n3_; (try clear hb); (try clear hb2); (try clear hk); (try clear hi)) | (go_at_call 18; (with_reducible refine (beguinagelaw10_awake.calls kj12  t155 _ A29.out).mono ?_); rintro e w44 ⟨rfl, hb⟩; have n0_ := Aside0.mk (Kd.R_below (by (with_reducible repeat (first | apply Kd.R_alloc | apply Kd.R_drewN | apply Kd.R_drew)); exact HO_7.out) hb); have n1_ := Aside0.mk (Kd.R_below (by (with_reducible repeat (first | apply Kd.R_alloc | apply Kd.R_drewN | apply Kd.R_drew)); exact HO141.out) hb); have n2_ := Aside0.mk (Kd.R_below (by (with_reducible repeat (first | apply Kd.R_alloc | apply Kd.R_drewN | apply Kd.R_drew)); exact HO150.out) hb); have n3_ := Aside0.mk (below_step (by repeat (first | (with_reducible first | exact HB.out | apply below_alloc | apply pw_below_drewN | apply below_drew1) | exact HB.out)) hb); clear HO_7; clear HO141; clear HO150; clear HB; have HO_7 := n0_; have HO141 := n1_; have HO150 := n2_; have HB := n3_; clear n0_ n1_ n2_ n3_; (try clear hb); (try clear hb2); (try clear hk); (try clear hi)))
                            go_ret
                            exact ⟨by first | rfl | (simp [errW_none, errW_some] <;> rfl) | (simp only [← hji25]; first | rfl | (simp [errW_none, errW_some] <;> rfl)) | (simp [*, errW_none, errW_some] <;> rfl), by repeat (first | (with_reducible first | exact HB.out | apply below_alloc | apply pw_below_drewN | apply below_drew1) | exact HB.out)⟩
                          · rw [if_neg c28] at H
                            have c28b0 : (t154 == 0) = false := beq_eq_false_iff_ne.mpr c28
                            have c28b1 : (t154 != 0) = true := bne_iff_ne.mpr c28
                            obtain rfl := Option.some.inj H
                            exact absurd hr_.out (by simp)
                        · rw [if_neg c26] at H
                          have c26b0 : (t153 == (ji25)) = false := beq_eq_false_iff_ne.mpr c26
                          have c26b1 : (t153 != (ji25)) = true := bne_iff_ne.mpr c26
                          obtain rfl := Option.some.inj H
                          exact absurd hr_.out (by simp)
                      · rw [if_neg c23] at H
                        have c23b0 : (t152 == t131) = false := beq_eq_false_iff_ne.mpr c23
                        have c23b1 : (t152 != t131) = true := bne_iff_ne.mpr c23
                        obtain rfl := Option.some.inj H
                        exact absurd hr_.out (by simp)
                    · rw [if_neg c21] at H
                      have c21b0 : (t151 == 0) = false := beq_eq_false_iff_ne.mpr c21
                      have c21b1 : (t151 != 0) = true := bne_iff_ne.mpr c21
                      obtain rfl := Option.some.inj H
                      exact absurd hr_.out (by simp)
                  · rw [if_neg c19] at H
                    have c19b0 : (t142 == t143) = false := beq_eq_false_iff_ne.mpr c19
                    have c19b1 : (t142 != t143) = true := bne_iff_ne.mpr c19
                    obtain rfl := Option.some.inj H
                    exact absurd hr_.out (by simp)
                · rw [if_neg c18] at H
                  have c18b0 : (t147 == x9_12) = false := beq_eq_false_iff_ne.mpr c18
                  have c18b1 : (t147 != x9_12) = true := bne_iff_ne.mpr c18
                  obtain rfl := Option.some.inj H
                  exact absurd hr_.out (by simp)

/-- THE ONE PURE STATEMENT of beguinagelaw10_SpanCounts: yours. -/
def beguinagelaw10_SpanCounts.Pure : Prop := ∀ (a0 : Int) (a1 : Int), (Lit.int .i64 a0).wf = true → (Lit.int .i64 a1).wf = true → ∃ k, beguinagelaw10_SpanCounts.f k a0 a1 = some true
theorem beguinagelaw10_SpanCounts.walk (P : beguinagelaw10_SpanCounts.Pure) (a0 : Int) (a1 : Int) (w : World) (w0 : (Lit.int .i64 a0).wf = true) (w1 : (Lit.int .i64 a1).wf = true) :
    Calls Try.prog 5 #[.int .i64 a0, .int .i64 a1] w fun e w' => e = .returned (.bool true) ∧ Below w.heap.size w w' := by
  obtain ⟨k, h⟩ := P a0 a1 w0 w1
  refine (beguinagelaw10_SpanCounts.calls k a0 a1 true w h ⟨rfl⟩).mono ?_
  rintro e w' ⟨rfl, hd⟩
  exact ⟨rfl, hd⟩

end Go.Proofs.Ytbdghlneiblkcaa.PSpan
