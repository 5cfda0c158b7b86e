-- Written by wip/pr.py, a program of this session's own that drives the kit's printer: not a text of print.sh.
import Derived.Test.YtkdjjkcoonlddaaPPoolx0
import Derived.Test.YtkdjjkcoonlddaaPPoolx3
import Derived.Test.YtkdjjkcoonlddaaPPoolx4
import Derived.Test.YtkdjjkcoonlddaaPoolGiven
namespace Go.Proofs.Ytkdjjkcoonlddaa.PPool
open Go.RowKit Go.Proofs.YtkdjjkcoonlddaaW.PrintWords Go.Proofs.YtkdjjkcoonlddaaW.PrintLast Go.Proofs.YtkdjjkcoonlddaaW.PrintMore
attribute [local go_sem] max2_int min2_int max_two min_two max_three min_three max_four min_four   -- for this text's walks alone
set_option linter.unusedVariables false
set_option linter.unusedSimpArgs false

/-! ### beguinagelaw12_PoolMore: function 6 -/
mutual
def beguinagelaw12_PoolMore.l0 : Nat → List Int → Int → List (S36) → Int → Int → Option (Bool)
  | 0, _, _, _, _, _ => none
  | k + 1, x1, x5, x6, x7, x8 => if x8 < (x1.length : Int) then (beguinagelaw12_PoolMore.j1 k x1 x5 x6 x7 x8 (decide (x8 < 10))) else (beguinagelaw12_PoolMore.j1 k x1 x5 x6 x7 x8 false)
def beguinagelaw12_PoolMore.j1 : Nat → List Int → Int → List (S36) → Int → Int → Bool → Option (Bool)
  | 0, _, _, _, _, _, _ => none
  | k + 1, x1, x5, x6, x7, x8, x23 => if x23 = true then (if 0 ≤ x8 then (if x8 < (x1.length : Int) then ((beguinagelaw00_Place.f (rd x1 x8) 12).bind fun t188 => (beguinagelaw12_PoolMore.l1 k x1 x5 x6 x7 x8 t188 ([] : List Int) 0)) else (none)) else (none)) else ((beguinagelaw12_awake.f).bind fun t186 => (some t186))
def beguinagelaw12_PoolMore.l1 : Nat → List Int → Int → List (S36) → Int → Int → Int → List Int → Int → Option (Bool)
  | 0, _, _, _, _, _, _, _, _ => none
  | k + 1, x1, x5, x6, x7, x8, x9, x10, x11 => if x11 < x9 then (if x10.length < 17592186044416 then (beguinagelaw12_PoolMore.l1 k x1 x5 x6 (wrap64 (x7 + 1)) x8 x9 (x10 ++ [x7]) (wrap64 (x11 + 1))) else (none)) else ((pool_Free.f x5 x6).bind fun t192 => (if x6.length < 1466015503701 then ((some (x6 ++ [(⟨wrap64 (1 + (Int.tmod x8 2)), 0, (⟨0, 0, 0, 0, 0, 0, 0⟩ : S34), x10⟩ : S36)] : List (S36))).bind fun y195 => ((pool_Free.f x5 y195).bind fun t198 => (if (t192.length : Int) = (mx (wrap64 ((wrap64 (x5 - x7)) + x9)) 0) then (if (t198.length : Int) = (mx (wrap64 (x5 - x7)) 0) then (if (t198.length : Int) > 0 then (if 0 < (t198.length : Int) then (if (rd t198 0) = x7 then (if 0 ≤ x8 then (if x8 ≤ (y195.length : Int) then ((pool_Free.f x5 (y195.take (x8 : Int).toNat)).bind fun t206 => (if (t206.length : Int) = (t192.length : Int) then (beguinagelaw12_PoolMore.l0 k x1 x5 y195 x7 (wrap64 (x8 + 1))) else (some false))) else (none)) else (none)) else (some false)) else (none)) else (if 0 ≤ x8 then (if x8 ≤ (y195.length : Int) then ((pool_Free.f x5 (y195.take (x8 : Int).toNat)).bind fun t213 => (if (t213.length : Int) = (t192.length : Int) then (beguinagelaw12_PoolMore.l0 k x1 x5 y195 x7 (wrap64 (x8 + 1))) else (some false))) else (none)) else (none))) else (some false)) else (some false)))) else (none)))
end
def beguinagelaw12_PoolMore.f (k : Nat) (a0 : Int) (l1 : List Int) : Option (Bool) := (beguinagelaw00_Place.f a0 150).bind fun t185 => (beguinagelaw12_PoolMore.l0 k l1 t185 ([] : List (S36)) 0 0)
theorem beguinagelaw12_PoolMore.mono_l : ∀ k, (∀ y0 y1 y2 y3 y4, LeO (beguinagelaw12_PoolMore.l0 k y0 y1 y2 y3 y4) (beguinagelaw12_PoolMore.l0 (k + 1) y0 y1 y2 y3 y4)) ∧ (∀ y0 y1 y2 y3 y4 y5, LeO (beguinagelaw12_PoolMore.j1 k y0 y1 y2 y3 y4 y5) (beguinagelaw12_PoolMore.j1 (k + 1) y0 y1 y2 y3 y4 y5)) ∧ (∀ y0 y1 y2 y3 y4 y5 y6 y7, LeO (beguinagelaw12_PoolMore.l1 k y0 y1 y2 y3 y4 y5 y6 y7) (beguinagelaw12_PoolMore.l1 (k + 1) y0 y1 y2 y3 y4 y5 y6 y7))
  | 0 => ⟨fun _ _ _ _ _ r h => by simp [beguinagelaw12_PoolMore.l0] at h, fun _ _ _ _ _ _ r h => by simp [beguinagelaw12_PoolMore.j1] at h, fun _ _ _ _ _ _ _ _ r h => by simp [beguinagelaw12_PoolMore.l1] at h⟩
  | k + 1 => by
    obtain ⟨ih0, ih1, ih2⟩ := beguinagelaw12_PoolMore.mono_l k
    refine ⟨?_, ?_, ?_⟩
    · intro y0 y1 y2 y3 y4
      unfold beguinagelaw12_PoolMore.l0
      repeat' first
      | (with_reducible exact ih0 _ _ _ _ _)
      | (with_reducible exact ih1 _ _ _ _ _ _)
      | (with_reducible exact ih2 _ _ _ _ _ _ _ _)
      | (with_reducible exact LeO.refl _)
      | (with_reducible exact LeO.none _)
      | (with_reducible refine LeO.ite ?_ ?_)
      | (with_reducible refine LeO.bind ?_ (fun _ => ?_))
      | exact ih0 _ _ _ _ _
      | exact ih1 _ _ _ _ _ _
      | exact ih2 _ _ _ _ _ _ _ _
      | exact LeO.none _
      | refine LeO.ite ?_ ?_
      | refine LeO.bind ?_ (fun _ => ?_)
    · intro y0 y1 y2 y3 y4 y5
      unfold beguinagelaw12_PoolMore.j1
      repeat' first
      | (with_reducible exact ih0 _ _ _ _ _)
      | (with_reducible exact ih1 _ _ _ _ _ _)
      | (with_reducible exact ih2 _ _ _ _ _ _ _ _)
      | (with_reducible exact LeO.refl _)
      | (with_reducible exact LeO.none _)
      | (with_reducible refine LeO.ite ?_ ?_)
      | (with_reducible refine LeO.bind ?_ (fun _ => ?_))
      | exact ih0 _ _ _ _ _
      | exact ih1 _ _ _ _ _ _
      | exact ih2 _ _ _ _ _ _ _ _
      | exact LeO.none _
      | refine LeO.ite ?_ ?_
      | refine LeO.bind ?_ (fun _ => ?_)
    · intro y0 y1 y2 y3 y4 y5 y6 y7
      unfold beguinagelaw12_PoolMore.l1
      repeat' first
      | (with_reducible exact ih0 _ _ _ _ _)
      | (with_reducible exact ih1 _ _ _ _ _ _)
      | (with_reducible exact ih2 _ _ _ _ _ _ _ _)
      | (with_reducible exact LeO.refl _)
      | (with_reducible exact LeO.none _)
      | (with_reducible refine LeO.ite ?_ ?_)
      | (with_reducible refine LeO.bind ?_ (fun _ => ?_))
      | exact ih0 _ _ _ _ _
      | exact ih1 _ _ _ _ _ _
      | exact ih2 _ _ _ _ _ _ _ _
      | exact LeO.none _
      | refine LeO.ite ?_ ?_
      | refine LeO.bind ?_ (fun _ => ?_)
theorem beguinagelaw12_PoolMore.mono : ∀ a0 a1 k, LeO (beguinagelaw12_PoolMore.f k a0 a1) (beguinagelaw12_PoolMore.f (k + 1) a0 a1) := by
  intro a0 a1 k
  obtain ⟨ih0, ih1, ih2⟩ := beguinagelaw12_PoolMore.mono_l k
  unfold beguinagelaw12_PoolMore.f
  repeat' first
      | (with_reducible exact ih0 _ _ _ _ _)
      | (with_reducible exact ih1 _ _ _ _ _ _)
      | (with_reducible exact ih2 _ _ _ _ _ _ _ _)
      | (with_reducible exact LeO.refl _)
      | (with_reducible exact LeO.none _)
      | (with_reducible refine LeO.ite ?_ ?_)
      | (with_reducible refine LeO.bind ?_ (fun _ => ?_))
      | exact ih0 _ _ _ _ _
      | exact ih1 _ _ _ _ _ _
      | exact ih2 _ _ _ _ _ _ _ _
      | exact LeO.none _
      | refine LeO.ite ?_ ?_
      | refine LeO.bind ?_ (fun _ => ?_)
set_option maxHeartbeats 8000000 in
set_option maxRecDepth 100000 in
theorem beguinagelaw12_PoolMore.calls (k : Nat) (a0 : Int) (A1 : Option Addr) (c1 : Nat) (l1 : List Int) (r : Bool) (w : World) (hr1 : Kd.C (Kd.int .i64) w A1 l1.length l1) (hc1 : l1.length ≤ c1) (h : beguinagelaw12_PoolMore.f k a0 l1 = some r) (hr_ : Aside0 (r = true)) :
    Calls Try.prog 6 #[.int .i64 a0, .slice A1 l1.length c1] w fun e w' => e = .returned (.bool r) ∧ Below w.heap.size w w' := by
  have hu36 := Try.underlying36
  have HR1 := Aside0.mk hr1
  have HC1 := Aside0.mk hc1
  clear hr1 hc1
  have HB := Aside0.mk (Below.refl w.heap.size w)
  have H : ((beguinagelaw00_Place.f a0 150).bind fun t185 => (beguinagelaw12_PoolMore.l0 k l1 t185 ([] : List (S36)) 0 0)) = some r := h
  clear h
  replace H := Option.bind_eq_some_iff.mp H
  obtain ⟨t185, A30, H⟩ := H
  replace H : (beguinagelaw12_PoolMore.l0 k l1 t185 ([] : List (S36)) 0 0) = some r := H
  have A3 := Aside0.mk A30
  clear A30
  have H' := Aside0.mk H
  clear H
  go_enter Try.func6, Try.ntmps6
  go_wp2_with (first | ((with_reducible refine gate_callee (f := 17) rfl ?_); refine goesL_ (some 15) rfl rfl Try.func17 (by kernel_rfl) rfl #[.int .i64 a0, .int .i64 150] rfl (by (try simp only [List.map_toArray, List.map_cons, List.map_nil]); first | done | rfl | (simp only [List.length_drop, List.length_take]; rfl)) ?_; (with_reducible refine (beguinagelaw00_Place.calls a0 150 t185 _ A3.out).mono ?_); rintro e w' ⟨rfl, ⟨nd, rfl⟩⟩; refine ⟨_, rfl, ?_⟩))
  go_loopg [6, 7, 8] k (fun kq v6 v7 v8 w' => ∃ (x6_1 : List (S36)) (x7_1 : Int) (x8_1 : Int), v7 = .int .i64 x7_1 ∧ v8 = .int .i64 x8_1 ∧ Aside0 (beguinagelaw12_PoolMore.l0 kq l1 t185 x6_1 x7_1 x8_1 = some r) ∧ Aside0 (kq ≤ k) ∧ Aside0 (Kd.S k36 36 w' w.heap.size (fun _ => True) v6 x6_1) ∧ Aside0 (Below w.heap.size w w'))
  case atStart => exact ⟨(([] : List (S36))), (0), (0), (by first | rfl | (simp; done) | (simp [*]; done)), (by first | rfl | (simp; done) | (simp [*]; done)), H', ⟨Nat.le_refl _⟩, ⟨by first | exact Kd.S_nil _ _ _ _ _ | exact Kd.N_nil _ _ _ _ _ | exact Kd.V_nil _ _ _ _ _ | exact Kd.Q_nil _ _ _ _ _ | exact Kd.R_nil _ _ _ _ _⟩, ⟨by repeat (first | (with_reducible first | exact HB.out | apply below_alloc | apply pw_below_drewN | apply below_drew1) | exact HB.out)⟩⟩
  case round =>
    clear H'
    try clear c1
    try clear p2
    obtain ⟨x6_1, x7_1, x8_1, rfl, rfl, HA, HK1, HO_6, HB⟩ := hrel
    cases gk with
    | zero => exact absurd HA.out (by simp [beguinagelaw12_PoolMore.l0])
    | succ k1 =>
      have H := HA.out
      clear HA
      simp only [beguinagelaw12_PoolMore.l0] at H
      have HC4 := Aside0.mk H
      clear H
      go_upto_region 5 with (fail)
      go_cut [23] (fun v23 wc => ∃ (kq : Nat) (x23_3 : Bool), v23 = .bool x23_3 ∧ Aside0 (beguinagelaw12_PoolMore.j1 kq l1 t185 x6_1 x7_1 x8_1 x23_3 = some r) ∧ Aside0 (kq ≤ k1) ∧ Aside0 (Kd.S k36 36 wc w.heap.size (fun _ => True) u6 x6_1) ∧ Aside0 (Below w.heap.size w wc))
      case first =>
        have H := HC4.out
        clear HC4
        by_cases c5 : x8_1 < (l1.length : Int)
        · rw [if_pos c5] at H
          have c5b0 : decide (x8_1 < (l1.length : Int)) = true := decide_eq_true c5
          clear c5
          (first | rw [c5b0] | (simp only [i64_w, i32_w]; rw [c5b0]) | skip)
          have H' := Aside0.mk H
          clear H
          go_wp2
          go_meet
          case rel => exact ⟨_, (decide (x8_1 < 10)), (by first | rfl | (simp; done) | (simp [*]; done)), H', ⟨by have := HK1.out; first | omega | exact Nat.le_refl _⟩, ⟨by (with_reducible repeat (first | apply Kd.S_alloc | apply Kd.S_drewN | apply Kd.S_drew)); exact HO_6.out⟩, ⟨by repeat (first | (with_reducible first | exact HB.out | apply below_alloc | apply pw_below_drewN | apply below_drew1) | exact HB.out)⟩⟩
        · rw [if_neg c5] at H
          have c5b0 : decide (x8_1 < (l1.length : Int)) = false := decide_eq_false c5
          clear c5
          (first | rw [c5b0] | (simp only [i64_w, i32_w]; rw [c5b0]) | skip)
          have H' := Aside0.mk H
          clear H
          go_wp2
          go_meet
          case rel => exact ⟨_, (false), (by first | rfl | (simp; done) | (simp [*]; done)), H', ⟨by have := HK1.out; first | omega | exact Nat.le_refl _⟩, ⟨by (with_reducible repeat (first | apply Kd.S_alloc | apply Kd.S_drewN | apply Kd.S_drew)); exact HO_6.out⟩, ⟨by repeat (first | (with_reducible first | exact HB.out | apply below_alloc | apply pw_below_drewN | apply below_drew1) | exact HB.out)⟩⟩
      case rest =>
        clear HC4
        try clear c1
        try clear p2
        try clear c5
        try clear c5b0
        try clear p2
        obtain ⟨kq, x23_3, rfl, HA, HJ3, HO_6, HB⟩ := hcut
        cases kq with
        | zero => exact absurd HA.out (by simp [beguinagelaw12_PoolMore.j1])
        | succ kj3 =>
          have H := HA.out
          clear HA
          simp only [beguinagelaw12_PoolMore.j1] at H
          by_cases c6 : x23_3 = true
          · subst c6
            have H1 : (if 0 ≤ x8_1 then (if x8_1 < (l1.length : Int) then ((beguinagelaw00_Place.f (rd l1 x8_1) 12).bind fun t188 => (beguinagelaw12_PoolMore.l1 kj3 l1 t185 x6_1 x7_1 x8_1 t188 ([] : List Int) 0)) else (none)) else (none)) = some r := by rw [if_pos rfl] at H; exact H
            clear H
            have H := H1
            clear H1
            by_cases c7 : 0 ≤ x8_1
            · rw [if_pos c7] at H
              have c7b0 : decide (0 ≤ x8_1) = true := decide_eq_true c7
              clear c7
              by_cases c8 : x8_1 < (l1.length : Int)
              · rw [if_pos c8] at H
                have c8b0 : decide (x8_1 < (l1.length : Int)) = true := decide_eq_true c8
                clear c8
                replace H := Option.bind_eq_some_iff.mp H
                obtain ⟨t188, A90, H⟩ := H
                replace H : (beguinagelaw12_PoolMore.l1 kj3 l1 t185 x6_1 x7_1 x8_1 t188 ([] : List Int) 0) = some r := H
                have A9 := Aside0.mk A90
                clear A90
                have H' := Aside0.mk H
                clear H
                have p187 : 0 ≤ (x8_1 : Int) := of_decide_eq_true (by first | (with_reducible assumption) | assumption)
                have q187 : x8_1 < (l1.length : Int) := of_decide_eq_true (by first | (with_reducible assumption) | assumption)
                obtain ⟨ad187, e187, hx187_0⟩ := Kd.at_int HR1.out x8_1 p187 q187
                cases e187
                replace hx187_0 := (HB.out.cell (World.block_lt_of_cell? w _ hx187_0)).trans hx187_0
                replace p187 := eq_true p187
                replace q187 := eq_true q187
                go_wp2_with (first | ((with_reducible refine gate_callee (f := 17) rfl ?_); refine goesL_ (some 30) rfl rfl Try.func17 (by kernel_rfl) rfl #[.int .i64 (rd l1 x8_1), .int .i64 12] rfl (by (try simp only [List.map_toArray, List.map_cons, List.map_nil]); first | done | rfl | (simp only [List.length_drop, List.length_take]; rfl)) ?_; (with_reducible refine (beguinagelaw00_Place.calls (rd l1 x8_1) 12 t188 _ A9.out).mono ?_); rintro e w' ⟨rfl, ⟨nd, rfl⟩⟩; refine ⟨_, rfl, ?_⟩))
                go_loopg [7, 10, 11] kj3 (fun kq v7 v10 v11 w' => ∃ (x7_3 : Int) (x10_3 : List Int) (x11_3 : Int), v7 = .int .i64 x7_3 ∧ v11 = .int .i64 x11_3 ∧ Aside0 (beguinagelaw12_PoolMore.l1 kq l1 t185 x6_1 x7_3 x8_1 t188 x10_3 x11_3 = some r) ∧ Aside0 (kq ≤ kj3) ∧ Aside0 (Kd.S k36 36 w' w.heap.size (fun k_ => some k_ ≠ (v10 : Value).ownBlock) u6 x6_1) ∧ Aside0 (Kd.R (Kd.int .i64) 3 w' w.heap.size (fun _ => True) v10 x10_3) ∧ Aside0 (Below w.heap.size w w'))
                case atStart => exact ⟨(x7_1), (([] : List Int)), (0), (by first | rfl | (simp; done) | (simp [*]; done)), (by first | rfl | (simp; done) | (simp [*]; done)), H', ⟨Nat.le_refl _⟩, ⟨by (with_reducible repeat (first | apply Kd.S_alloc | apply Kd.S_drewN | apply Kd.S_drew)); exact Kd.S_mono HO_6.out (fun _ hk => (by simp [Value.ownBlock]))⟩, ⟨by first | exact Kd.R_nil _ _ _ _ _ | exact Kd.N_nil _ _ _ _ _ | exact Kd.V_nil _ _ _ _ _ | exact Kd.Q_nil _ _ _ _ _ | exact Kd.S_nil _ _ _ _ _⟩, ⟨by repeat (first | (with_reducible first | exact HB.out | apply below_alloc | apply pw_below_drewN | apply below_drew1) | exact HB.out)⟩⟩
                case round =>
                  clear H'
                  try clear c1
                  try clear p1
                  try clear q1
                  try clear hx1
                  try clear p2
                  try clear c5
                  try clear c5b0
                  try clear c6
                  try clear c7
                  try clear c7b0
                  try clear c8
                  try clear c8b0
                  try clear hx187_0
                  try clear p187
                  try clear p2
                  try clear q187
                  obtain ⟨x7_3, x10_3, x11_3, rfl, rfl, HA, HK3, HO_6, HO_10, HB⟩ := hrel
                  cases gk with
                  | zero => exact absurd HA.out (by simp [beguinagelaw12_PoolMore.l1])
                  | succ k3 =>
                    have H := HA.out
                    clear HA
                    simp only [beguinagelaw12_PoolMore.l1] at H
                    by_cases c10 : x11_3 < t188
                    · rw [if_pos c10] at H
                      have c10b0 : decide (x11_3 < t188) = true := decide_eq_true c10
                      clear c10
                      by_cases c11 : x10_3.length < 17592186044416
                      · rw [if_pos c11] at H
                        have LMc11 := Aside0.mk c11
                        clear c11
                        obtain ⟨y189, hy189⟩ : ∃ y_ : List Int, y_ = (x10_3 ++ [x7_3]) := ⟨_, rfl⟩
                        replace H : (beguinagelaw12_PoolMore.l1 k3 l1 t185 x6_1 (wrap64 (x7_3 + 1)) x8_1 t188 y189 (wrap64 (x11_3 + 1))) = some r := by first | (rw [hy189]; with_reducible exact H) | (have H2_ := (Option.bind_some _ _).symm.trans H; rw [hy189]; with_reducible exact H2_) | (have H2_ := (Option.bind_some _ _).symm.trans H; with_reducible exact H2_) | with_reducible exact H | (rw [hy189]; exact H) | exact H
                        have Ny189 := Aside0.mk hy189
                        clear hy189
                        have H' := Aside0.mk H
                        clear H
                        go_wp2_with (first | ((with_reducible refine gate_builtin (b := .append) (xs := #[.tmp 36, .tmp 38]) rfl ?_); (try (refine gate_guard (by rfl) ?_; dsimp only)); at_builtin; refine Kd.R_append (Kd.int .i64) (w0 := w) w.heap.size rfl (.tmp 36) (.tmp 38) 26 3 (.int .i64 0) 8 rfl Try.underlying26 info3 rfl (by decide) (by omega) u10 x10_3 x7_3 [.int .i64 x7_3] (fun _ => True) (fun _ => False) rfl rfl ?aP (fun _ hk => hk.elim) ?aF ?aO ?aB ?aS ?aL ?_; (case aP => exact rfl); (case aB => exact (by repeat (first | (with_reducible first | exact HB.out | apply below_alloc | apply pw_below_drewN | apply below_drew1) | exact HB.out))); (case aF => exact (fun _ _ => trivial)); (case aO => exact (by (with_reducible repeat (first | apply Kd.R_alloc | apply Kd.R_drewN | apply Kd.R_drew)); exact HO_10.out)); (case aS => exact (below_size (by repeat (first | (with_reducible first | exact HB.out | apply below_alloc | apply pw_below_drewN | apply below_drew1) | exact HB.out)))); (case aL => have := LMc11.out; omega); intro v190 w12 ho hb hg hat; rw [← Ny189.out] at ho; have n0_ := Aside0.mk (Kd.S_after (ok := (fun _ => True)) (by (with_reducible repeat (first | apply Kd.S_alloc | apply Kd.S_drewN | apply Kd.S_drew)); exact Kd.S_mono HO_6.out (fun _ hk => ⟨trivial, hk⟩)) hg hat); have n1_ := Aside0.mk (hb); have n2_ := Aside0.mk (ho); clear HO_6; clear HB; clear HO_10; have HO_6 := n0_; have HB := n1_; have HO191 := n2_; clear n0_ n1_ n2_; clear ho hb hg hat))
                        go_roundg k3
                        case measure => have := HK1.out; have := HJ3.out; have := HK3.out; omega
                        case rel => exact ⟨(wrap64 (x7_3 + 1)), (y189), (wrap64 (x11_3 + 1)), (by first | rfl | (simp; done) | (simp [*]; done)), (by first | rfl | (simp; done) | (simp [*]; done)), H', ⟨by have := HK1.out; have := HJ3.out; have := HK3.out; omega⟩, ⟨by (with_reducible repeat (first | apply Kd.S_alloc | apply Kd.S_drewN | apply Kd.S_drew)); exact Kd.S_mono HO_6.out (fun _ hk => hk.2)⟩, ⟨by (with_reducible repeat (first | apply Kd.R_alloc | apply Kd.R_drewN | apply Kd.R_drew)); exact HO191.out⟩, ⟨by repeat (first | (with_reducible first | exact HB.out | apply below_alloc | apply pw_below_drewN | apply below_drew1) | exact HB.out)⟩⟩
                      · rw [if_neg c11] at H
                        exact absurd H (by simp)
                    · rw [if_neg c10] at H
                      have c10b0 : decide (x11_3 < t188) = false := decide_eq_false c10
                      clear c10
                      replace H := Option.bind_eq_some_iff.mp H
                      obtain ⟨t192, A130, H⟩ := H
                      replace H : (if x6_1.length < 1466015503701 then ((some (x6_1 ++ [(⟨wrap64 (1 + (Int.tmod x8_1 2)), 0, (⟨0, 0, 0, 0, 0, 0, 0⟩ : S34), x10_3⟩ : S36)] : List (S36))).bind fun y195 => ((pool_Free.f t185 y195).bind fun t198 => (if (t192.length : Int) = (mx (wrap64 ((wrap64 (t185 - x7_3)) + t188)) 0) then (if (t198.length : Int) = (mx (wrap64 (t185 - x7_3)) 0) then (if (t198.length : Int) > 0 then (if 0 < (t198.length : Int) then (if (rd t198 0) = x7_3 then (if 0 ≤ x8_1 then (if x8_1 ≤ (y195.length : Int) then ((pool_Free.f t185 (y195.take (x8_1 : Int).toNat)).bind fun t206 => (if (t206.length : Int) = (t192.length : Int) then (beguinagelaw12_PoolMore.l0 k3 l1 t185 y195 x7_3 (wrap64 (x8_1 + 1))) else (some false))) else (none)) else (none)) else (some false)) else (none)) else (if 0 ≤ x8_1 then (if x8_1 ≤ (y195.length : Int) then ((pool_Free.f t185 (y195.take (x8_1 : Int).toNat)).bind fun t213 => (if (t213.length : Int) = (t192.length : Int) then (beguinagelaw12_PoolMore.l0 k3 l1 t185 y195 x7_3 (wrap64 (x8_1 + 1))) else (some false))) else (none)) else (none))) else (some false)) else (some false)))) else (none)) = some r := H
                      have A13 := Aside0.mk A130
                      clear A130
                      by_cases c14 : x6_1.length < 1466015503701
                      · rw [if_pos c14] at H
                        have LMc14 := Aside0.mk c14
                        clear c14
                        obtain ⟨y195, hy195⟩ : ∃ y_ : List (S36), y_ = (x6_1 ++ [(⟨wrap64 (1 + (Int.tmod x8_1 2)), 0, (⟨0, 0, 0, 0, 0, 0, 0⟩ : S34), x10_3⟩ : S36)]) := ⟨_, rfl⟩
                        replace H : ((pool_Free.f t185 y195).bind fun t198 => (if (t192.length : Int) = (mx (wrap64 ((wrap64 (t185 - x7_3)) + t188)) 0) then (if (t198.length : Int) = (mx (wrap64 (t185 - x7_3)) 0) then (if (t198.length : Int) > 0 then (if 0 < (t198.length : Int) then (if (rd t198 0) = x7_3 then (if 0 ≤ x8_1 then (if x8_1 ≤ (y195.length : Int) then ((pool_Free.f t185 (y195.take (x8_1 : Int).toNat)).bind fun t206 => (if (t206.length : Int) = (t192.length : Int) then (beguinagelaw12_PoolMore.l0 k3 l1 t185 y195 x7_3 (wrap64 (x8_1 + 1))) else (some false))) else (none)) else (none)) else (some false)) else (none)) else (if 0 ≤ x8_1 then (if x8_1 ≤ (y195.length : Int) then ((pool_Free.f t185 (y195.take (x8_1 : Int).toNat)).bind fun t213 => (if (t213.length : Int) = (t192.length : Int) then (beguinagelaw12_PoolMore.l0 k3 l1 t185 y195 x7_3 (wrap64 (x8_1 + 1))) else (some false))) else (none)) else (none))) else (some false)) else (some false))) = some r := by first | (rw [hy195]; with_reducible exact H) | (have H2_ := (Option.bind_some _ _).symm.trans H; rw [hy195]; with_reducible exact H2_) | (have H2_ := (Option.bind_some _ _).symm.trans H; with_reducible exact H2_) | with_reducible exact H | (rw [hy195]; exact H) | exact H
                        have Ny195 := Aside0.mk hy195
                        clear hy195
                        replace H := Option.bind_eq_some_iff.mp H
                        obtain ⟨t198, A150, H⟩ := H
                        replace H : (if (t192.length : Int) = (mx (wrap64 ((wrap64 (t185 - x7_3)) + t188)) 0) then (if (t198.length : Int) = (mx (wrap64 (t185 - x7_3)) 0) then (if (t198.length : Int) > 0 then (if 0 < (t198.length : Int) then (if (rd t198 0) = x7_3 then (if 0 ≤ x8_1 then (if x8_1 ≤ (y195.length : Int) then ((pool_Free.f t185 (y195.take (x8_1 : Int).toNat)).bind fun t206 => (if (t206.length : Int) = (t192.length : Int) then (beguinagelaw12_PoolMore.l0 k3 l1 t185 y195 x7_3 (wrap64 (x8_1 + 1))) else (some false))) else (none)) else (none)) else (some false)) else (none)) else (if 0 ≤ x8_1 then (if x8_1 ≤ (y195.length : Int) then ((pool_Free.f t185 (y195.take (x8_1 : Int).toNat)).bind fun t213 => (if (t213.length : Int) = (t192.length : Int) then (beguinagelaw12_PoolMore.l0 k3 l1 t185 y195 x7_3 (wrap64 (x8_1 + 1))) else (some false))) else (none)) else (none))) else (some false)) else (some false)) = some r := H
                        have A15 := Aside0.mk A150
                        clear A150
                        obtain ⟨ji16, hji16⟩ : ∃ j_ : Int, (mx (wrap64 ((wrap64 (t185 - x7_3)) + t188)) 0) = j_ := ⟨_, rfl⟩
                        replace H : (if (t192.length : Int) = (ji16) then (if (t198.length : Int) = (mx (wrap64 (t185 - x7_3)) 0) then (if (t198.length : Int) > 0 then (if 0 < (t198.length : Int) then (if (rd t198 0) = x7_3 then (if 0 ≤ x8_1 then (if x8_1 ≤ (y195.length : Int) then ((pool_Free.f t185 (y195.take (x8_1 : Int).toNat)).bind fun t206 => (if (t206.length : Int) = (t192.length : Int) then (beguinagelaw12_PoolMore.l0 k3 l1 t185 y195 x7_3 (wrap64 (x8_1 + 1))) else (some false))) else (none)) else (none)) else (some false)) else (none)) else (if 0 ≤ x8_1 then (if x8_1 ≤ (y195.length : Int) then ((pool_Free.f t185 (y195.take (x8_1 : Int).toNat)).bind fun t213 => (if (t213.length : Int) = (t192.length : Int) then (beguinagelaw12_PoolMore.l0 k3 l1 t185 y195 x7_3 (wrap64 (x8_1 + 1))) else (some false))) else (none)) else (none))) else (some false)) else (some false)) = some r := by first | (rw [hji16] at H; exact H) | (simp only [hji16] at H ⊢; exact H)
                        (try rw [hji16] at A13)
                        (try rw [hji16] at A15)
                        have hji16_ : (if (wrap64 ((wrap64 (t185 - x7_3)) + t188)) < 0 then 0 else (wrap64 ((wrap64 (t185 - x7_3)) + t188))) = ji16 := hji16
                        by_cases c17 : (t192.length : Int) = (ji16)
                        · rw [if_pos c17] at H
                          have c17b0 : ((t192.length : Int) == (ji16)) = true := beq_iff_eq.mpr c17
                          have c17b1 : ((t192.length : Int) != (ji16)) = false := bne_eq_false_iff_eq.mpr c17
                          clear c17
                          obtain ⟨ji18, hji18⟩ : ∃ j_ : Int, (mx (wrap64 (t185 - x7_3)) 0) = j_ := ⟨_, rfl⟩
                          replace H : (if (t198.length : Int) = (ji18) then (if (t198.length : Int) > 0 then (if 0 < (t198.length : Int) then (if (rd t198 0) = x7_3 then (if 0 ≤ x8_1 then (if x8_1 ≤ (y195.length : Int) then ((pool_Free.f t185 (y195.take (x8_1 : Int).toNat)).bind fun t206 => (if (t206.length : Int) = (t192.length : Int) then (beguinagelaw12_PoolMore.l0 k3 l1 t185 y195 x7_3 (wrap64 (x8_1 + 1))) else (some false))) else (none)) else (none)) else (some false)) else (none)) else (if 0 ≤ x8_1 then (if x8_1 ≤ (y195.length : Int) then ((pool_Free.f t185 (y195.take (x8_1 : Int).toNat)).bind fun t213 => (if (t213.length : Int) = (t192.length : Int) then (beguinagelaw12_PoolMore.l0 k3 l1 t185 y195 x7_3 (wrap64 (x8_1 + 1))) else (some false))) else (none)) else (none))) else (some false)) = some r := by first | (rw [hji18] at H; exact H) | (simp only [hji18] at H ⊢; exact H)
                          (try rw [hji18] at A13)
                          (try rw [hji18] at A15)
                          have hji18_ : (if (wrap64 (t185 - x7_3)) < 0 then 0 else (wrap64 (t185 - x7_3))) = ji18 := hji18
                          by_cases c19 : (t198.length : Int) = (ji18)
                          · rw [if_pos c19] at H
                            have c19b0 : ((t198.length : Int) == (ji18)) = true := beq_iff_eq.mpr c19
                            have c19b1 : ((t198.length : Int) != (ji18)) = false := bne_eq_false_iff_eq.mpr c19
                            clear c19
                            by_cases c20 : (t198.length : Int) > 0
                            · rw [if_pos c20] at H
                              have c20b0 : decide (0 < (t198.length : Int)) = true := decide_eq_true c20
                              have c20b1 : decide (0 < t198.length) = true := decide_eq_true (by omega)
                              clear c20
                              by_cases c21 : 0 < (t198.length : Int)
                              · rw [if_pos c21] at H
                                have c21b0 : decide (0 < (t198.length : Int)) = true := decide_eq_true c21
                                have c21b1 : decide (0 < t198.length) = true := decide_eq_true (by omega)
                                clear c21
                                by_cases c22 : (rd t198 0) = x7_3
                                · rw [if_pos c22] at H
                                  have c22b0 : ((rd t198 0) == x7_3) = true := beq_iff_eq.mpr c22
                                  have c22b1 : ((rd t198 0) != x7_3) = false := bne_eq_false_iff_eq.mpr c22
                                  clear c22
                                  by_cases c23 : 0 ≤ x8_1
                                  · rw [if_pos c23] at H
                                    have c23b0 := eq_true c23
                                    have c23b1 : decide (0 ≤ x8_1) = true := decide_eq_true c23
                                    clear c23
                                    by_cases c24 : x8_1 ≤ (y195.length : Int)
                                    · rw [if_pos c24] at H
                                      have c24b0 := eq_true c24
                                      have c24b1 : decide (x8_1 ≤ (y195.length : Int)) = true := decide_eq_true c24
                                      clear c24
                                      obtain ⟨y202, hy202⟩ : ∃ y_ : List (S36), y_ = (y195.take (x8_1 : Int).toNat) := ⟨_, rfl⟩
                                      replace H : ((pool_Free.f t185 y202).bind fun t206 => (if (t206.length : Int) = (t192.length : Int) then (beguinagelaw12_PoolMore.l0 k3 l1 t185 y195 x7_3 (wrap64 (x8_1 + 1))) else (some false))) = some r := by first | (rw [hy202]; with_reducible exact H) | (have H2_ := (Option.bind_some _ _).symm.trans H; rw [hy202]; with_reducible exact H2_) | (have H2_ := (Option.bind_some _ _).symm.trans H; with_reducible exact H2_) | with_reducible exact H | (rw [hy202]; exact H) | exact H
                                      have Ny202 := Aside0.mk hy202
                                      clear hy202
                                      replace H := Option.bind_eq_some_iff.mp H
                                      obtain ⟨t206, A250, H⟩ := H
                                      replace H : (if (t206.length : Int) = (t192.length : Int) then (beguinagelaw12_PoolMore.l0 k3 l1 t185 y195 x7_3 (wrap64 (x8_1 + 1))) else (some false)) = some r := H
                                      have A25 := Aside0.mk A250
                                      clear A250
                                      by_cases c26 : (t206.length : Int) = (t192.length : Int)
                                      · rw [if_pos c26] at H
                                        have c26b0 : ((t206.length : Int) == (t192.length : Int)) = true := beq_iff_eq.mpr c26
                                        have c26b1 : ((t206.length : Int) != (t192.length : Int)) = false := bne_eq_false_iff_eq.mpr c26
                                        have c26b2 : (t206.length == t192.length) = true := by first | simpa using c26 | (simp at c26 ⊢; omega)
                                        clear c26
                                        have H' := Aside0.mk H
                                        clear H
                                        obtain ⟨Ao27, co27, eo27⟩ := Kd.S_slice HO_6.out
                                        subst eo27
                                        go_wp2_with (first | ((with_reducible refine gate_callee (f := 21) rfl ?_); refine goesL_ (some 44) rfl rfl Try.func21 (by kernel_rfl) rfl #[.int .i64 t185, .slice Ao27 x6_1.length co27] rfl (by (try simp only [List.map_toArray, List.map_cons, List.map_nil]); first | done | rfl | (simp only [List.length_drop, List.length_take]; rfl)) ?_; (with_reducible refine (pool_Free.calls t185 _ _ x6_1 t192 _ ?side1 ?side2 A13.out).mono ?_); (case side1 => repeat (first | exact (Kd.S_reads' HO_6.out).2.2 | (with_reducible refine Kd.C_alloc ?_ _) | (with_reducible refine Kd.C_drewN ?_ _) | (with_reducible refine Kd.C_drew ?_))); (case side2 => exact (Kd.S_reads' HO_6.out).2.1); rintro e w28 ⟨v193, rfl, ho0, hb⟩; refine ⟨_, rfl, ?_⟩; have n0_ := Aside0.mk (Kd.S_elder' (by (with_reducible repeat (first | apply Kd.S_alloc | apply Kd.S_drewN | apply Kd.S_drew)); exact HO_6.out) (Kd.R_base ho0) hb); have n1_ := Aside0.mk (Kd.R_elder' (by (with_reducible repeat (first | apply Kd.R_alloc | apply Kd.R_drewN | apply Kd.R_drew)); exact HO_10.out) (Kd.R_base ho0) hb); have n2_ := Aside0.mk (Kd.R_lower (Kd.R_new' ho0 (Kd.R_lt (by (with_reducible repeat (first | apply Kd.R_alloc | apply Kd.R_drewN | apply Kd.R_drew)); exact HO_10.out))) (below_size (by repeat (first | (with_reducible first | exact HB.out | apply below_alloc | apply pw_below_drewN | apply below_drew1) | exact HB.out)))); have n3_ := Aside0.mk (below_step (by repeat (first | (with_reducible first | exact HB.out | apply below_alloc | apply pw_below_drewN | apply below_drew1) | exact HB.out)) hb); clear HO_6; clear HO_10; clear HB; have HO_6 := n0_; have HO_10 := n1_; have HO194 := n2_; have HB := n3_; clear n0_ n1_ n2_ n3_; (try clear hb); (try clear hb2); (try clear hk); (try clear hi); (try clear ho0); obtain ⟨Ao29, co29, eo29⟩ := Kd.R_slice HO_10.out; subst eo29) | ((with_reducible refine gate_builtin (b := .append) (xs := #[.tmp 45, .tmp 51]) rfl ?_); (try (refine gate_guard (by rfl) ?_; dsimp only)); at_builtin; refine Kd.S_append k36 (w0 := w) w.heap.size rfl (.tmp 45) (.tmp 51) 22 36 (.agg #[(.int .i64 0), (.int .i64 0), (.int .i64 0), (.int .i64 0), (.int .i64 0), (.int .i64 0), (.int .i64 0), (.int .i64 0), (.int .i64 0), (.slice none 0 0)]) 96 rfl Try.underlying22 info36 rfl (by decide) (by omega) (.slice Ao27 x6_1.length co27) x6_1 (⟨wrap64 (1 + (Int.tmod x8_1 2)), 0, (⟨0, 0, 0, 0, 0, 0, 0⟩ : S34), x10_3⟩ : S36) [.int .i64 (wrap64 (1 + (Int.tmod x8_1 2))), .int .i64 0, .int .i64 0, .int .i64 0, .int .i64 0, .int .i64 0, .int .i64 0, .int .i64 0, .int .i64 0, .slice Ao29 x10_3.length co29] (fun k_ => some k_ ≠ (v193 : Value).ownBlock) (fun k_ => some k_ = (.slice Ao29 x10_3.length co29 : Value).ownBlock) rfl rfl ?aP (fun k_ hk_ => ((Kd.R_mono (ok' := fun k_ => ((fun k_ => some k_ ≠ (v193 : Value).ownBlock)) k_ ∧ some k_ ≠ (.slice Ao27 x6_1.length co27 : Value).ownBlock) (Kd.R_apart' (HO_10.out) (Kd.S_typed HO_6.out) (by decide)) (fun k_ hk => ⟨hk.1.2, hk.2⟩))).1 k_ hk_.symm) ?aF ?aO ?aB ?aS ?aL ?_; (case aP => exact k36_mkM _ _ _ (⟨wrap64 (1 + (Int.tmod x8_1 2)), 0, (⟨0, 0, 0, 0, 0, 0, 0⟩ : S34), x10_3⟩ : S36) (Kd.R_mono (Kd.R_tight rfl (Kd.R_mono (ok' := fun k_ => ((fun k_ => some k_ ≠ (v193 : Value).ownBlock)) k_ ∧ some k_ ≠ (.slice Ao27 x6_1.length co27 : Value).ownBlock) (Kd.R_apart' (HO_10.out) (Kd.S_typed HO_6.out) (by decide)) (fun k_ hk => ⟨hk.1.2, hk.2⟩))) (fun _ h_ => h_))); (case aB => exact (by repeat (first | (with_reducible first | exact HB.out | apply below_alloc | apply pw_below_drewN | apply below_drew1) | exact HB.out))); (case aF => exact (fun k_ hk => Kd.fresh' (Kd.R_lt (by (with_reducible repeat (first | apply Kd.R_alloc | apply Kd.R_drewN | apply Kd.R_drew)); exact HO194.out)) k_ hk)); (case aO => exact (by (with_reducible repeat (first | apply Kd.S_alloc | apply Kd.S_drewN | apply Kd.S_drew)); exact Kd.S_mono HO_6.out (fun k_ hk => ⟨hk.2, fun e_ => hk.1 e_⟩))); (case aS => exact (below_size (by repeat (first | (with_reducible first | exact HB.out | apply below_alloc | apply pw_below_drewN | apply below_drew1) | exact HB.out)))); (case aL => have := LMc14.out; omega); intro v196 w30 ho hb hg hat; rw [← Ny195.out] at ho; have n0_ := Aside0.mk (Kd.R_over' (by (with_reducible repeat (first | apply Kd.R_alloc | apply Kd.R_drewN | apply Kd.R_drew)); exact HO194.out) (Kd.S_typed (by (with_reducible repeat (first | apply Kd.S_alloc | apply Kd.S_drewN | apply Kd.S_drew)); exact HO_6.out)) (by decide) hg); have n1_ := Aside0.mk (hb); have n2_ := Aside0.mk (ho); clear HO194; clear HB; clear HO_6; clear HO_10; have HO194 := n0_; have HB := n1_; have HO197 := n2_; clear n0_ n1_ n2_; clear ho hb hg hat; obtain ⟨Ao31, co31, eo31⟩ := Kd.S_slice HO197.out; subst eo31) | ((with_reducible refine gate_callee (f := 21) rfl ?_); refine goesL_ (some 55) rfl rfl Try.func21 (by kernel_rfl) rfl #[.int .i64 t185, .slice Ao31 y195.length co31] rfl (by (try simp only [List.map_toArray, List.map_cons, List.map_nil]); first | done | rfl | (simp only [List.length_drop, List.length_take]; rfl)) ?_; (with_reducible refine (pool_Free.calls t185 _ _ y195 t198 _ ?side1 ?side2 A15.out).mono ?_); (case side1 => repeat (first | exact (Kd.S_reads' HO197.out).2.2 | (with_reducible refine Kd.C_alloc ?_ _) | (with_reducible refine Kd.C_drewN ?_ _) | (with_reducible refine Kd.C_drew ?_))); (case side2 => exact (Kd.S_reads' HO197.out).2.1); rintro e w32 ⟨v199, rfl, ho0, hb⟩; refine ⟨_, rfl, ?_⟩; have n0_ := Aside0.mk (Kd.R_elder' (by (with_reducible repeat (first | apply Kd.R_alloc | apply Kd.R_drewN | apply Kd.R_drew)); exact HO194.out) (Kd.R_base ho0) hb); have n1_ := Aside0.mk (Kd.S_elder' (by (with_reducible repeat (first | apply Kd.S_alloc | apply Kd.S_drewN | apply Kd.S_drew)); exact HO197.out) (Kd.R_base ho0) hb); have n2_ := Aside0.mk (Kd.R_lower (Kd.R_new' ho0 (Kd.R_lt (by (with_reducible repeat (first | apply Kd.R_alloc | apply Kd.R_drewN | apply Kd.R_drew)); exact HO194.out))) (below_size (by repeat (first | (with_reducible first | exact HB.out | apply below_alloc | apply pw_below_drewN | apply below_drew1) | exact HB.out)))); have n3_ := Aside0.mk (below_step (by repeat (first | (with_reducible first | exact HB.out | apply below_alloc | apply pw_below_drewN | apply below_drew1) | exact HB.out)) hb); clear HO194; clear HO197; clear HB; have HO194 := n0_; have HO197 := n1_; have HO200 := n2_; have HB := n3_; clear n0_ n1_ n2_ n3_; (try clear hb); (try clear hb2); (try clear hk); (try clear hi); (try clear ho0); obtain ⟨Ao33, co33, eo33⟩ := Kd.R_slice HO194.out; subst eo33; obtain ⟨Ao34, co34, eo34⟩ := Kd.R_slice HO200.out; subst eo34; have p201 : 0 ≤ (0 : Int) := (by omega); have q201 : 0 < (t198.length : Int) := of_decide_eq_true (by first | (with_reducible assumption) | assumption); obtain ⟨ad201, e201, hx201_0⟩ := Kd.at_int (Kd.R_reads' HO200.out).2.2 0 p201 q201; cases e201; have qi201 : (0 < t198.length) = True := eq_true (by omega); (try rw [show ((0 : Int)).toNat = 0 from rfl] at hx201_0); (try rw [Addr.add_zero'] at hx201_0); replace p201 := eq_true p201; replace q201 := eq_true q201; have q35 : (x8_1 : Int) ≤ ((y195.length : Int) : Int) := of_decide_eq_true (by first | (with_reducible assumption) | assumption); obtain ⟨i035, hi035, _, hsz35, _⟩ := info_parts info36; have hroom35 : y195.length ≤ co31 := (Kd.S_reads' HO197.out).2.1; have hC35 : Kd.C k36 _ Ao31 y195.length y195 := (Kd.S_reads' HO197.out).2.2; have hcut35 := cut_to (P := Try.prog) 22 36 .i64 Try.underlying22 hi035 Ao31 y195.length co31 x8_1 (of_decide_eq_true (by first | (with_reducible assumption) | assumption)) q35 hroom35; have hr35 := Kd.C_take (m := (x8_1 : Int).toNat) hC35 (by omega); have hy35 : y202.length = (x8_1 : Int).toNat := (by rw [Ny202.out, List.length_take]; omega); rw [← Ny202.out] at hr35; rw [← hy35] at hcut35; have HR205 := Aside0.mk hr35; have HC205 := Aside0.mk (show y202.length ≤ co31 from by omega); clear hr35 hC35 hroom35 hi035 hsz35; have KY35 := Aside0.mk hy35; clear hy35; have KL35 := Aside0.mk (show (x8_1 : Int).toNat ≤ y195.length from by omega); replace q35 := eq_true q35) | (go_at_call 21; (with_reducible refine (pool_Free.calls t185 _ _ y202 t206 _ ?side1 ?side2 A25.out).mono ?_); (case side1 => repeat (first | exact (by repeat (first | (with_reducible exact HR205.out) | (with_reducible refine Kd.C_alloc ?_ _) | (with_reducible refine Kd.C_drewN ?_ _) | (with_reducible refine Kd.C_drew ?_) | exact HR205.out)) | (with_reducible refine Kd.C_alloc ?_ _) | (with_reducible refine Kd.C_drewN ?_ _) | (with_reducible refine Kd.C_drew ?_))); (case side2 => exact HC205.out); rintro e w36 ⟨v207, rfl, ho0, hb⟩; have n0_ := Aside0.mk (Kd.R_elder' (by (with_reducible repeat (first | apply Kd.R_alloc | apply Kd.R_drewN | apply Kd.R_drew)); exact HO194.out) (Kd.R_base ho0) hb); have n1_ := Aside0.mk (Kd.S_elder' (by (with_reducible repeat (first | apply Kd.S_alloc | apply Kd.S_drewN | apply Kd.S_drew)); exact HO197.out) (Kd.R_base ho0) hb); have n2_ := Aside0.mk (Kd.R_elder' (by (with_reducible repeat (first | apply Kd.R_alloc | apply Kd.R_drewN | apply Kd.R_drew)); exact HO200.out) (Kd.R_base ho0) hb); have n3_ := Aside0.mk (Kd.R_lower (Kd.R_new' (Kd.R_new' ho0 (Kd.R_lt (by (with_reducible repeat (first | apply Kd.R_alloc | apply Kd.R_drewN | apply Kd.R_drew)); exact HO194.out))) (Kd.R_lt (by (with_reducible repeat (first | apply Kd.R_alloc | apply Kd.R_drewN | apply Kd.R_drew)); exact HO200.out))) (below_size (by repeat (first | (with_reducible first | exact HB.out | apply below_alloc | apply pw_below_drewN | apply below_drew1) | exact HB.out)))); have n4_ := Aside0.mk (Kd.C_below (by repeat (first | (with_reducible exact HR205.out) | (with_reducible refine Kd.C_alloc ?_ _) | (with_reducible refine Kd.C_drewN ?_ _) | (with_reducible refine Kd.C_drew ?_) | exact HR205.out)) hb); have n5_ := Aside0.mk (below_step (by repeat (first | (with_reducible first | exact HB.out | apply below_alloc | apply pw_below_drewN | apply below_drew1) | exact HB.out)) hb); clear HO194; clear HO197; clear HO200; clear HR205; clear HB; have HO194 := n0_; have HO197 := n1_; have HO200 := n2_; have HO208 := n3_; have HR205 := n4_; have HB := n5_; clear n0_ n1_ n2_ n3_ n4_ n5_; (try clear hb); (try clear hb2); (try clear hk); (try clear hi); (try clear ho0); obtain ⟨Ao37, co37, eo37⟩ := Kd.R_slice HO208.out; subst eo37))
                                        go_roundg k3
                                        case measure => have := HK1.out; have := HJ3.out; have := HK3.out; omega
                                        case rel => exact ⟨(y195), (x7_3), (wrap64 (x8_1 + 1)), (by first | rfl | (simp; done) | (simp [*]; done)), (by first | rfl | (simp; done) | (simp [*]; done)), H', ⟨by have := HK1.out; have := HJ3.out; have := HK3.out; omega⟩, ⟨by (with_reducible repeat (first | apply Kd.S_alloc | apply Kd.S_drewN | apply Kd.S_drew)); exact Kd.S_mono HO197.out (fun _ hk => trivial)⟩, ⟨by repeat (first | (with_reducible first | exact HB.out | apply below_alloc | apply pw_below_drewN | apply below_drew1) | exact HB.out)⟩⟩
                                      · rw [if_neg c26] at H
                                        have c26b0 : ((t206.length : Int) == (t192.length : Int)) = false := beq_eq_false_iff_ne.mpr c26
                                        have c26b1 : ((t206.length : Int) != (t192.length : Int)) = true := bne_iff_ne.mpr c26
                                        have c26b2 : (t206.length == t192.length) = false := by first | simpa using c26 | (simp at c26 ⊢; omega)
                                        obtain rfl := Option.some.inj H
                                        exact absurd hr_.out (by simp)
                                    · rw [if_neg c24] at H
                                      exact absurd H (by simp)
                                  · rw [if_neg c23] at H
                                    exact absurd H (by simp)
                                · rw [if_neg c22] at H
                                  have c22b0 : ((rd t198 0) == x7_3) = false := beq_eq_false_iff_ne.mpr c22
                                  have c22b1 : ((rd t198 0) != x7_3) = true := bne_iff_ne.mpr c22
                                  obtain rfl := Option.some.inj H
                                  exact absurd hr_.out (by simp)
                              · rw [if_neg c21] at H
                                exact absurd H (by simp)
                            · rw [if_neg c20] at H
                              have c20b0 : decide (0 < (t198.length : Int)) = false := decide_eq_false c20
                              have c20b1 : decide (0 < t198.length) = false := decide_eq_false (by omega)
                              clear c20
                              by_cases c38 : 0 ≤ x8_1
                              · rw [if_pos c38] at H
                                have c38b0 := eq_true c38
                                have c38b1 : decide (0 ≤ x8_1) = true := decide_eq_true c38
                                clear c38
                                by_cases c39 : x8_1 ≤ (y195.length : Int)
                                · rw [if_pos c39] at H
                                  have c39b0 := eq_true c39
                                  have c39b1 : decide (x8_1 ≤ (y195.length : Int)) = true := decide_eq_true c39
                                  clear c39
                                  obtain ⟨y209, hy209⟩ : ∃ y_ : List (S36), y_ = (y195.take (x8_1 : Int).toNat) := ⟨_, rfl⟩
                                  replace H : ((pool_Free.f t185 y209).bind fun t213 => (if (t213.length : Int) = (t192.length : Int) then (beguinagelaw12_PoolMore.l0 k3 l1 t185 y195 x7_3 (wrap64 (x8_1 + 1))) else (some false))) = some r := by first | (rw [hy209]; with_reducible exact H) | (have H2_ := (Option.bind_some _ _).symm.trans H; rw [hy209]; with_reducible exact H2_) | (have H2_ := (Option.bind_some _ _).symm.trans H; with_reducible exact H2_) | with_reducible exact H | (rw [hy209]; exact H) | exact H
                                  have Ny209 := Aside0.mk hy209
                                  clear hy209
                                  replace H := Option.bind_eq_some_iff.mp H
                                  obtain ⟨t213, A400, H⟩ := H
                                  replace H : (if (t213.length : Int) = (t192.length : Int) then (beguinagelaw12_PoolMore.l0 k3 l1 t185 y195 x7_3 (wrap64 (x8_1 + 1))) else (some false)) = some r := H
                                  have A40 := Aside0.mk A400
                                  clear A400
                                  by_cases c41 : (t213.length : Int) = (t192.length : Int)
                                  · rw [if_pos c41] at H
                                    have c41b0 : ((t213.length : Int) == (t192.length : Int)) = true := beq_iff_eq.mpr c41
                                    have c41b1 : ((t213.length : Int) != (t192.length : Int)) = false := bne_eq_false_iff_eq.mpr c41
                                    have c41b2 : (t213.length == t192.length) = true := by first | simpa using c41 | (simp at c41 ⊢; omega)
                                    clear c41
                                    have H' := Aside0.mk H
                                    clear H
                                    obtain ⟨Ao42, co42, eo42⟩ := Kd.S_slice HO_6.out
                                    subst eo42
                                    go_wp2_with (first | ((with_reducible refine gate_callee (f := 21) rfl ?_); refine goesL_ (some 44) rfl rfl Try.func21 (by kernel_rfl) rfl #[.int .i64 t185, .slice Ao42 x6_1.length co42] rfl (by (try simp only [List.map_toArray, List.map_cons, List.map_nil]); first | done | rfl | (simp only [List.length_drop, List.length_take]; rfl)) ?_; (with_reducible refine (pool_Free.calls t185 _ _ x6_1 t192 _ ?side1 ?side2 A13.out).mono ?_); (case side1 => repeat (first | exact (Kd.S_reads' HO_6.out).2.2 | (with_reducible refine Kd.C_alloc ?_ _) | (with_reducible refine Kd.C_drewN ?_ _) | (with_reducible refine Kd.C_drew ?_))); (case side2 => exact (Kd.S_reads' HO_6.out).2.1); rintro e w43 ⟨v193, rfl, ho0, hb⟩; refine ⟨_, rfl, ?_⟩; have n0_ := Aside0.mk (Kd.S_elder' (by (with_reducible repeat (first | apply Kd.S_alloc | apply Kd.S_drewN | apply Kd.S_drew)); exact HO_6.out) (Kd.R_base ho0) hb); have n1_ := Aside0.mk (Kd.R_elder' (by (with_reducible repeat (first | apply Kd.R_alloc | apply Kd.R_drewN | apply Kd.R_drew)); exact HO_10.out) (Kd.R_base ho0) hb); have n2_ := Aside0.mk (Kd.R_lower (Kd.R_new' ho0 (Kd.R_lt (by (with_reducible repeat (first | apply Kd.R_alloc | apply Kd.R_drewN | apply Kd.R_drew)); exact HO_10.out))) (below_size (by repeat (first | (with_reducible first | exact HB.out | apply below_alloc | apply pw_below_drewN | apply below_drew1) | exact HB.out)))); have n3_ := Aside0.mk (below_step (by repeat (first | (with_reducible first | exact HB.out | apply below_alloc | apply pw_below_drewN | apply below_drew1) | exact HB.out)) hb); clear HO_6; clear HO_10; clear HB; have HO_6 := n0_; have HO_10 := n1_; have HO194 := n2_; have HB := n3_; clear n0_ n1_ n2_ n3_; (try clear hb); (try clear hb2); (try clear hk); (try clear hi); (try clear ho0); obtain ⟨Ao44, co44, eo44⟩ := Kd.R_slice HO_10.out; subst eo44) | ((with_reducible refine gate_builtin (b := .append) (xs := #[.tmp 45, .tmp 51]) rfl ?_); (try (refine gate_guard (by rfl) ?_; dsimp only)); at_builtin; refine Kd.S_append k36 (w0 := w) w.heap.size rfl (.tmp 45) (.tmp 51) 22 36 (.agg #[(.int .i64 0), (.int .i64 0), (.int .i64 0), (.int .i64 0), (.int .i64 0), (.int .i64 0), (.int .i64 0), (.int .i64 0), (.int .i64 0), (.slice none 0 0)]) 96 rfl Try.underlying22 info36 rfl (by decide) (by omega) (.slice Ao42 x6_1.length co42) x6_1 (⟨wrap64 (1 + (Int.tmod x8_1 2)), 0, (⟨0, 0, 0, 0, 0, 0, 0⟩ : S34), x10_3⟩ : S36) [.int .i64 (wrap64 (1 + (Int.tmod x8_1 2))), .int .i64 0, .int .i64 0, .int .i64 0, .int .i64 0, .int .i64 0, .int .i64 0, .int .i64 0, .int .i64 0, .slice Ao44 x10_3.length co44] (fun k_ => some k_ ≠ (v193 : Value).ownBlock) (fun k_ => some k_ = (.slice Ao44 x10_3.length co44 : Value).ownBlock) rfl rfl ?aP (fun k_ hk_ => ((Kd.R_mono (ok' := fun k_ => ((fun k_ => some k_ ≠ (v193 : Value).ownBlock)) k_ ∧ some k_ ≠ (.slice Ao42 x6_1.length co42 : Value).ownBlock) (Kd.R_apart' (HO_10.out) (Kd.S_typed HO_6.out) (by decide)) (fun k_ hk => ⟨hk.1.2, hk.2⟩))).1 k_ hk_.symm) ?aF ?aO ?aB ?aS ?aL ?_; (case aP => exact k36_mkM _ _ _ (⟨wrap64 (1 + (Int.tmod x8_1 2)), 0, (⟨0, 0, 0, 0, 0, 0, 0⟩ : S34), x10_3⟩ : S36) (Kd.R_mono (Kd.R_tight rfl (Kd.R_mono (ok' := fun k_ => ((fun k_ => some k_ ≠ (v193 : Value).ownBlock)) k_ ∧ some k_ ≠ (.slice Ao42 x6_1.length co42 : Value).ownBlock) (Kd.R_apart' (HO_10.out) (Kd.S_typed HO_6.out) (by decide)) (fun k_ hk => ⟨hk.1.2, hk.2⟩))) (fun _ h_ => h_))); (case aB => exact (by repeat (first | (with_reducible first | exact HB.out | apply below_alloc | apply pw_below_drewN | apply below_drew1) | exact HB.out))); (case aF => exact (fun k_ hk => Kd.fresh' (Kd.R_lt (by (with_reducible repeat (first | apply Kd.R_alloc | apply Kd.R_drewN | apply Kd.R_drew)); exact HO194.out)) k_ hk)); (case aO => exact (by (with_reducible repeat (first | apply Kd.S_alloc | apply Kd.S_drewN | apply Kd.S_drew)); exact Kd.S_mono HO_6.out (fun k_ hk => ⟨hk.2, fun e_ => hk.1 e_⟩))); (case aS => exact (below_size (by repeat (first | (with_reducible first | exact HB.out | apply below_alloc | apply pw_below_drewN | apply below_drew1) | exact HB.out)))); (case aL => have := LMc14.out; omega); intro v196 w45 ho hb hg hat; rw [← Ny195.out] at ho; have n0_ := Aside0.mk (Kd.R_over' (by (with_reducible repeat (first | apply Kd.R_alloc | apply Kd.R_drewN | apply Kd.R_drew)); exact HO194.out) (Kd.S_typed (by (with_reducible repeat (first | apply Kd.S_alloc | apply Kd.S_drewN | apply Kd.S_drew)); exact HO_6.out)) (by decide) hg); have n1_ := Aside0.mk (hb); have n2_ := Aside0.mk (ho); clear HO194; clear HB; clear HO_6; clear HO_10; have HO194 := n0_; have HB := n1_; have HO197 := n2_; clear n0_ n1_ n2_; clear ho hb hg hat; obtain ⟨Ao46, co46, eo46⟩ := Kd.S_slice HO197.out; subst eo46) | ((with_reducible refine gate_callee (f := 21) rfl ?_); refine goesL_ (some 55) rfl rfl Try.func21 (by kernel_rfl) rfl #[.int .i64 t185, .slice Ao46 y195.length co46] rfl (by (try simp only [List.map_toArray, List.map_cons, List.map_nil]); first | done | rfl | (simp only [List.length_drop, List.length_take]; rfl)) ?_; (with_reducible refine (pool_Free.calls t185 _ _ y195 t198 _ ?side1 ?side2 A15.out).mono ?_); (case side1 => repeat (first | exact (Kd.S_reads' HO197.out).2.2 | (with_reducible refine Kd.C_alloc ?_ _) | (with_reducible refine Kd.C_drewN ?_ _) | (with_reducible refine Kd.C_drew ?_))); (case side2 => exact (Kd.S_reads' HO197.out).2.1); rintro e w47 ⟨v199, rfl, ho0, hb⟩; refine ⟨_, rfl, ?_⟩; have n0_ := Aside0.mk (Kd.R_elder' (by (with_reducible repeat (first | apply Kd.R_alloc | apply Kd.R_drewN | apply Kd.R_drew)); exact HO194.out) (Kd.R_base ho0) hb); have n1_ := Aside0.mk (Kd.S_elder' (by (with_reducible repeat (first | apply Kd.S_alloc | apply Kd.S_drewN | apply Kd.S_drew)); exact HO197.out) (Kd.R_base ho0) hb); have n2_ := Aside0.mk (Kd.R_lower (Kd.R_new' ho0 (Kd.R_lt (by (with_reducible repeat (first | apply Kd.R_alloc | apply Kd.R_drewN | apply Kd.R_drew)); exact HO194.out))) (below_size (by repeat (first | (with_reducible first | exact HB.out | apply below_alloc | apply pw_below_drewN | apply below_drew1) | exact HB.out)))); have n3_ := Aside0.mk (below_step (by repeat (first | (with_reducible first | exact HB.out | apply below_alloc | apply pw_below_drewN | apply below_drew1) | exact HB.out)) hb); clear HO194; clear HO197; clear HB; have HO194 := n0_; have HO197 := n1_; have HO200 := n2_; have HB := n3_; clear n0_ n1_ n2_ n3_; (try clear hb); (try clear hb2); (try clear hk); (try clear hi); (try clear ho0); obtain ⟨Ao48, co48, eo48⟩ := Kd.R_slice HO194.out; subst eo48; obtain ⟨Ao49, co49, eo49⟩ := Kd.R_slice HO200.out; subst eo49; have q50 : (x8_1 : Int) ≤ ((y195.length : Int) : Int) := of_decide_eq_true (by first | (with_reducible assumption) | assumption); obtain ⟨i050, hi050, _, hsz50, _⟩ := info_parts info36; have hroom50 : y195.length ≤ co46 := (Kd.S_reads' HO197.out).2.1; have hC50 : Kd.C k36 _ Ao46 y195.length y195 := (Kd.S_reads' HO197.out).2.2; have hcut50 := cut_to (P := Try.prog) 22 36 .i64 Try.underlying22 hi050 Ao46 y195.length co46 x8_1 (of_decide_eq_true (by first | (with_reducible assumption) | assumption)) q50 hroom50; have hr50 := Kd.C_take (m := (x8_1 : Int).toNat) hC50 (by omega); have hy50 : y209.length = (x8_1 : Int).toNat := (by rw [Ny209.out, List.length_take]; omega); rw [← Ny209.out] at hr50; rw [← hy50] at hcut50; have HR212 := Aside0.mk hr50; have HC212 := Aside0.mk (show y209.length ≤ co46 from by omega); clear hr50 hC50 hroom50 hi050 hsz50; have KY50 := Aside0.mk hy50; clear hy50; have KL50 := Aside0.mk (show (x8_1 : Int).toNat ≤ y195.length from by omega); replace q50 := eq_true q50) | (go_at_call 21; (with_reducible refine (pool_Free.calls t185 _ _ y209 t213 _ ?side1 ?side2 A40.out).mono ?_); (case side1 => repeat (first | exact (by repeat (first | (with_reducible exact HR212.out) | (with_reducible refine Kd.C_alloc ?_ _) | (with_reducible refine Kd.C_drewN ?_ _) | (with_reducible refine Kd.C_drew ?_) | exact HR212.out)) | (with_reducible refine Kd.C_alloc ?_ _) | (with_reducible refine Kd.C_drewN ?_ _) | (with_reducible refine Kd.C_drew ?_))); (case side2 => exact HC212.out); rintro e w51 ⟨v214, rfl, ho0, hb⟩; have n0_ := Aside0.mk (Kd.R_elder' (by (with_reducible repeat (first | apply Kd.R_alloc | apply Kd.R_drewN | apply Kd.R_drew)); exact HO194.out) (Kd.R_base ho0) hb); have n1_ := Aside0.mk (Kd.S_elder' (by (with_reducible repeat (first | apply Kd.S_alloc | apply Kd.S_drewN | apply Kd.S_drew)); exact HO197.out) (Kd.R_base ho0) hb); have n2_ := Aside0.mk (Kd.R_elder' (by (with_reducible repeat (first | apply Kd.R_alloc | apply Kd.R_drewN | apply Kd.R_drew)); exact HO200.out) (Kd.R_base ho0) hb); have n3_ := Aside0.mk (Kd.R_lower (Kd.R_new' (Kd.R_new' ho0 (Kd.R_lt (by (with_reducible repeat (first | apply Kd.R_alloc | apply Kd.R_drewN | apply Kd.R_drew)); exact HO194.out))) (Kd.R_lt (by (with_reducible repeat (first | apply Kd.R_alloc | apply Kd.R_drewN | apply Kd.R_drew)); exact HO200.out))) (below_size (by repeat (first | (with_reducible first | exact HB.out | apply below_alloc | apply pw_below_drewN | apply below_drew1) | exact HB.out)))); have n4_ := Aside0.mk (Kd.C_below (by repeat (first | (with_reducible exact HR212.out) | (with_reducible refine Kd.C_alloc ?_ _) | (with_reducible refine Kd.C_drewN ?_ _) | (with_reducible refine Kd.C_drew ?_) | exact HR212.out)) hb); have n5_ := Aside0.mk (below_step (by repeat (first | (with_reducible first | exact HB.out | apply below_alloc | apply pw_below_drewN | apply below_drew1) | exact HB.out)) hb); clear HO194; clear HO197; clear HO200; clear HR212; clear HB; have HO194 := n0_; have HO197 := n1_; have HO200 := n2_; have HO215 := n3_; have HR212 := n4_; have HB := n5_; clear n0_ n1_ n2_ n3_ n4_ n5_; (try clear hb); (try clear hb2); (try clear hk); (try clear hi); (try clear ho0); obtain ⟨Ao52, co52, eo52⟩ := Kd.R_slice HO215.out; subst eo52))
                                    go_roundg k3
                                    case measure => have := HK1.out; have := HJ3.out; have := HK3.out; omega
                                    case rel => exact ⟨(y195), (x7_3), (wrap64 (x8_1 + 1)), (by first | rfl | (simp; done) | (simp [*]; done)), (by first | rfl | (simp; done) | (simp [*]; done)), H', ⟨by have := HK1.out; have := HJ3.out; have := HK3.out; omega⟩, ⟨by (with_reducible repeat (first | apply Kd.S_alloc | apply Kd.S_drewN | apply Kd.S_drew)); exact Kd.S_mono HO197.out (fun _ hk => trivial)⟩, ⟨by repeat (first | (with_reducible first | exact HB.out | apply below_alloc | apply pw_below_drewN | apply below_drew1) | exact HB.out)⟩⟩
                                  · rw [if_neg c41] at H
                                    have c41b0 : ((t213.length : Int) == (t192.length : Int)) = false := beq_eq_false_iff_ne.mpr c41
                                    have c41b1 : ((t213.length : Int) != (t192.length : Int)) = true := bne_iff_ne.mpr c41
                                    have c41b2 : (t213.length == t192.length) = false := by first | simpa using c41 | (simp at c41 ⊢; omega)
                                    obtain rfl := Option.some.inj H
                                    exact absurd hr_.out (by simp)
                                · rw [if_neg c39] at H
                                  exact absurd H (by simp)
                              · rw [if_neg c38] at H
                                exact absurd H (by simp)
                          · rw [if_neg c19] at H
                            have c19b0 : ((t198.length : Int) == (ji18)) = false := beq_eq_false_iff_ne.mpr c19
                            have c19b1 : ((t198.length : Int) != (ji18)) = true := bne_iff_ne.mpr c19
                            obtain rfl := Option.some.inj H
                            exact absurd hr_.out (by simp)
                        · rw [if_neg c17] at H
                          have c17b0 : ((t192.length : Int) == (ji16)) = false := beq_eq_false_iff_ne.mpr c17
                          have c17b1 : ((t192.length : Int) != (ji16)) = true := bne_iff_ne.mpr c17
                          obtain rfl := Option.some.inj H
                          exact absurd hr_.out (by simp)
                      · rw [if_neg c14] at H
                        exact absurd H (by simp)
              · rw [if_neg c8] at H
                exact absurd H (by simp)
            · rw [if_neg c7] at H
              exact absurd H (by simp)
          · replace c6 := Bool.eq_false_iff.mpr c6
            subst c6
            have H1 : ((beguinagelaw12_awake.f).bind fun t186 => (some t186)) = some r := by rw [if_neg (show ¬ (false = true) by decide)] at H; exact H
            clear H
            have H := H1
            clear H1
            replace H := Option.bind_eq_some_iff.mp H
            obtain ⟨t186, A530, H⟩ := H
            replace H : (some t186) = some r := H
            have A53 := Aside0.mk A530
            clear A530
            obtain rfl := Option.some.inj H
            go_wp2_with (first | ((with_reducible refine gate_callee (f := 16) rfl ?_); refine goesL_ (some 97) rfl rfl Try.func16 (by kernel_rfl) rfl #[] rfl (by (try simp only [List.map_toArray, List.map_cons, List.map_nil]); first | done | rfl | (simp only [List.length_drop, List.length_take]; rfl)) ?_; (with_reducible refine (beguinagelaw12_awake.calls  t186 _ A53.out).mono ?_); rintro e w54 ⟨rfl, hb⟩; refine ⟨_, rfl, ?_⟩; have n0_ := Aside0.mk (Kd.S_below (by (with_reducible repeat (first | apply Kd.S_alloc | apply Kd.S_drewN | apply Kd.S_drew)); exact HO_6.out) hb); have n1_ := Aside0.mk (below_step (by repeat (first | (with_reducible first | exact HB.out | apply below_alloc | apply pw_below_drewN | apply below_drew1) | exact HB.out)) hb); clear HO_6; clear HB; have HO_6 := n0_; have HB := n1_; clear n0_ n1_; (try clear hb); (try clear hb2); (try clear hk); (try clear hi)))
            go_ret
            exact ⟨by first | rfl | (simp [errW_none, errW_some] <;> rfl) | (simp [*, errW_none, errW_some] <;> rfl), by repeat (first | (with_reducible first | exact HB.out | apply below_alloc | apply pw_below_drewN | apply below_drew1) | exact HB.out)⟩

/-- THE ONE PURE STATEMENT of beguinagelaw12_PoolMore: yours. -/
def beguinagelaw12_PoolMore.Pure : Prop := ∀ (a0 : Int) (l1 : List Int), (Lit.int .i64 a0).wf = true → l1.length ≤ maxLen → l1.length * 8 ≤ 140737488351232 → (∀ x ∈ l1, (Lit.int .i64 x).wf = true) → ∃ k, beguinagelaw12_PoolMore.f k a0 l1 = some true
theorem beguinagelaw12_PoolMore.walk (P : beguinagelaw12_PoolMore.Pure) (a0 : Int) (a1 : Option Addr) (len1 cap1 : Nat) (z1 : List Int) (w : World) (w0 : (Lit.int .i64 a0).wf = true) (w1 : (a1 = none ∧ len1 = 0 ∧ cap1 = 0 ∧ z1 = []) ∨ ∃ x, a1 = some x ∧ len1 ≤ cap1 ∧ cap1 ≤ maxLen ∧ z1.length = cap1 ∧ (∀ i, i < z1.length → w.cell? (x.add i) = some (.int .i64 (z1.getD i 0))) ∧ ∀ n ∈ z1, (Lit.int .i64 n).wf = true) (y1 : len1 * 8 ≤ 140737488351232) :
    Calls Try.prog 6 #[.int .i64 a0, .slice a1 len1 cap1] w fun e w' => e = .returned (.bool true) ∧ Below w.heap.size w w' := by
  obtain ⟨l1, rfl, hr1, hm1, hw1, hc1⟩ := ReadsInt.ofRowC w1
  obtain ⟨k, h⟩ := P a0 l1 w0 hm1 y1 hw1
  refine (beguinagelaw12_PoolMore.calls k a0 _ _ l1 true w (Kd.C_of_reads (d := (0 : Int)) (h1 := fun _ => rfl) hr1) hc1 h ⟨rfl⟩).mono ?_
  rintro e w' ⟨rfl, hd⟩
  exact ⟨rfl, hd⟩

end Go.Proofs.Ytkdjjkcoonlddaa.PPool
