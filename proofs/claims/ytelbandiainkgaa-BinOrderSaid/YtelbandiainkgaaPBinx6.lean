-- Written by wip/pr.py, a program of this session's own that drives the kit's printer: not a text of print.sh.
import Derived.Test.YtelbandiainkgaaPBinx0
import Derived.Test.YtelbandiainkgaaPBinx1
import Derived.Test.YtelbandiainkgaaPBinx3
import Derived.Test.YtelbandiainkgaaPBinx5
import Derived.Test.YtelbandiainkgaaBinGetGiven
namespace Go.Proofs.Ytelbandiainkgaa.PBin
open Go.RowKit Go.Proofs.YtelbandiainkgaaW.PrintWords Go.Proofs.YtelbandiainkgaaW.PrintLast Go.Proofs.YtelbandiainkgaaW.PrintMore
attribute [local go_sem] max2_int min2_int max_two min_two max_three min_three max_four min_four   -- for this text's walks alone
set_option linter.unusedVariables false
set_option linter.unusedSimpArgs false

/-! ### beguinagelaw03_BinOrder: function 3 -/
mutual
def beguinagelaw03_BinOrder.l0 : Nat → List Int → Int → ByteArray → List Int → Int → Option (Bool)
  | 0, _, _, _, _, _ => none
  | k + 1, x0, x5, x6, x7, x8 => if x8 < (x0.length : Int) then (beguinagelaw03_BinOrder.j1 k x0 x5 x6 x7 x8 (decide (x8 < 30))) else (beguinagelaw03_BinOrder.j1 k x0 x5 x6 x7 x8 false)
def beguinagelaw03_BinOrder.j1 : Nat → List Int → Int → ByteArray → List Int → Int → Bool → Option (Bool)
  | 0, _, _, _, _, _, _ => none
  | k + 1, x0, x5, x6, x7, x8, x27 => if x27 = true then (if 0 ≤ x8 then (if x8 < (x0.length : Int) then (if 0 ≤ (IntKind.u64.wrap (wrap64 ((wrap64 (8 * (mn x5 7))) - 1))) then ((beguinagelaw00_Place.f (rd x0 x8) (shl .i64 1 (IntKind.u64.wrap (wrap64 ((wrap64 (8 * (mn x5 7))) - 1))))).bind fun t114 => (if x7.length < 17592186044416 then ((bin_Put.f k t114 x5).bind fun t118 => (if x6.size + t118.size ≤ 9223372036854775807 then (beguinagelaw03_BinOrder.l0 k x0 x5 (x6 ++ t118) (x7 ++ [t114]) (wrap64 (x8 + 1))) else (none))) else (none))) else (none)) else (none)) else (none)) else (if (x6.size : Int) = (wrap64 (x5 * (x7.length : Int))) then (beguinagelaw03_BinOrder.l1 k x5 x6 x7 0) else (some false))
def beguinagelaw03_BinOrder.l1 : Nat → Int → ByteArray → List Int → Int → Option (Bool)
  | 0, _, _, _, _ => none
  | k + 1, x5, x6, x7, x10 => if x10 < (x7.length : Int) then ((bin_Get.f x6 (wrap64 (x10 * x5)) x5).bind fun bt119 => (if bt119.2 = true then (if 0 ≤ x10 then (if bt119.1 = (rd x7 x10) then (if 0 ≤ (wrap64 (x10 * x5)) then (if (wrap64 (x10 * x5)) < (x6.size : Int) then (if (wrap64 (bt x6 (wrap64 (x10 * x5)))) = (Int.tmod (rd x7 x10) 256) then (beguinagelaw03_BinOrder.l1 k x5 x6 x7 (wrap64 (x10 + 1))) else (some false)) else (none)) else (none)) else (some false)) else (none)) else (some false))) else ((bin_Get.f x6 (x6.size : Int) 1).bind fun bt123 => ((bin_Get.f x6 (x6.size : Int) 0).bind fun bt125 => (if bt123.2 = true then (some false) else (if bt125.2 = true then (if bt125.1 = 0 then ((bin_Put.f k 5 (wrap64 (-x5))).bind fun t127 => (if t127.toList = ([] : List UInt8) then ((bin_Put.f k 5 (wrap64 (7 + x5))).bind fun t128 => (if (t128.size : Int) = 7 then ((beguinagelaw03_awake.f k).bind fun t129 => (some t129)) else (some false))) else (some false))) else (some false)) else (some false)))))
end
def beguinagelaw03_BinOrder.f (k : Nat) (l0 : List Int) (a1 : Int) : Option (Bool) := (beguinagelaw00_Place.f a1 7).bind fun t112 => (beguinagelaw03_BinOrder.l0 k l0 (wrap64 (1 + t112)) (⟨#[]⟩ : ByteArray) ([] : List Int) 0)
theorem beguinagelaw03_BinOrder.mono_l : ∀ k, (∀ y0 y1 y2 y3 y4, LeO (beguinagelaw03_BinOrder.l0 k y0 y1 y2 y3 y4) (beguinagelaw03_BinOrder.l0 (k + 1) y0 y1 y2 y3 y4)) ∧ (∀ y0 y1 y2 y3 y4 y5, LeO (beguinagelaw03_BinOrder.j1 k y0 y1 y2 y3 y4 y5) (beguinagelaw03_BinOrder.j1 (k + 1) y0 y1 y2 y3 y4 y5)) ∧ (∀ y0 y1 y2 y3, LeO (beguinagelaw03_BinOrder.l1 k y0 y1 y2 y3) (beguinagelaw03_BinOrder.l1 (k + 1) y0 y1 y2 y3))
  | 0 => ⟨fun _ _ _ _ _ r h => by simp [beguinagelaw03_BinOrder.l0] at h, fun _ _ _ _ _ _ r h => by simp [beguinagelaw03_BinOrder.j1] at h, fun _ _ _ _ r h => by simp [beguinagelaw03_BinOrder.l1] at h⟩
  | k + 1 => by
    obtain ⟨ih0, ih1, ih2⟩ := beguinagelaw03_BinOrder.mono_l k
    refine ⟨?_, ?_, ?_⟩
    · intro y0 y1 y2 y3 y4
      unfold beguinagelaw03_BinOrder.l0
      repeat' first
      | (with_reducible exact ih0 _ _ _ _ _)
      | (with_reducible exact ih1 _ _ _ _ _ _)
      | (with_reducible exact ih2 _ _ _ _)
      | (with_reducible exact beguinagelaw03_awake.mono _)
      | (with_reducible exact bin_Put.mono _ _ _)
      | (with_reducible exact LeO.refl _)
      | (with_reducible exact LeO.none _)
      | (with_reducible refine LeO.ite ?_ ?_)
      | (with_reducible refine LeO.bind ?_ (fun _ => ?_))
      | exact ih0 _ _ _ _ _
      | exact ih1 _ _ _ _ _ _
      | exact ih2 _ _ _ _
      | exact beguinagelaw03_awake.mono _
      | exact bin_Put.mono _ _ _
      | exact LeO.none _
      | refine LeO.ite ?_ ?_
      | refine LeO.bind ?_ (fun _ => ?_)
    · intro y0 y1 y2 y3 y4 y5
      unfold beguinagelaw03_BinOrder.j1
      repeat' first
      | (with_reducible exact ih0 _ _ _ _ _)
      | (with_reducible exact ih1 _ _ _ _ _ _)
      | (with_reducible exact ih2 _ _ _ _)
      | (with_reducible exact beguinagelaw03_awake.mono _)
      | (with_reducible exact bin_Put.mono _ _ _)
      | (with_reducible exact LeO.refl _)
      | (with_reducible exact LeO.none _)
      | (with_reducible refine LeO.ite ?_ ?_)
      | (with_reducible refine LeO.bind ?_ (fun _ => ?_))
      | exact ih0 _ _ _ _ _
      | exact ih1 _ _ _ _ _ _
      | exact ih2 _ _ _ _
      | exact beguinagelaw03_awake.mono _
      | exact bin_Put.mono _ _ _
      | exact LeO.none _
      | refine LeO.ite ?_ ?_
      | refine LeO.bind ?_ (fun _ => ?_)
    · intro y0 y1 y2 y3
      unfold beguinagelaw03_BinOrder.l1
      repeat' first
      | (with_reducible exact ih0 _ _ _ _ _)
      | (with_reducible exact ih1 _ _ _ _ _ _)
      | (with_reducible exact ih2 _ _ _ _)
      | (with_reducible exact beguinagelaw03_awake.mono _)
      | (with_reducible exact bin_Put.mono _ _ _)
      | (with_reducible exact LeO.refl _)
      | (with_reducible exact LeO.none _)
      | (with_reducible refine LeO.ite ?_ ?_)
      | (with_reducible refine LeO.bind ?_ (fun _ => ?_))
      | exact ih0 _ _ _ _ _
      | exact ih1 _ _ _ _ _ _
      | exact ih2 _ _ _ _
      | exact beguinagelaw03_awake.mono _
      | exact bin_Put.mono _ _ _
      | exact LeO.none _
      | refine LeO.ite ?_ ?_
      | refine LeO.bind ?_ (fun _ => ?_)
theorem beguinagelaw03_BinOrder.mono : ∀ a0 a1 k, LeO (beguinagelaw03_BinOrder.f k a0 a1) (beguinagelaw03_BinOrder.f (k + 1) a0 a1) := by
  intro a0 a1 k
  obtain ⟨ih0, ih1, ih2⟩ := beguinagelaw03_BinOrder.mono_l k
  unfold beguinagelaw03_BinOrder.f
  repeat' first
      | (with_reducible exact ih0 _ _ _ _ _)
      | (with_reducible exact ih1 _ _ _ _ _ _)
      | (with_reducible exact ih2 _ _ _ _)
      | (with_reducible exact beguinagelaw03_awake.mono _)
      | (with_reducible exact bin_Put.mono _ _ _)
      | (with_reducible exact LeO.refl _)
      | (with_reducible exact LeO.none _)
      | (with_reducible refine LeO.ite ?_ ?_)
      | (with_reducible refine LeO.bind ?_ (fun _ => ?_))
      | exact ih0 _ _ _ _ _
      | exact ih1 _ _ _ _ _ _
      | exact ih2 _ _ _ _
      | exact beguinagelaw03_awake.mono _
      | exact bin_Put.mono _ _ _
      | exact LeO.none _
      | refine LeO.ite ?_ ?_
      | refine LeO.bind ?_ (fun _ => ?_)
set_option maxHeartbeats 8000000 in
set_option maxRecDepth 100000 in
theorem beguinagelaw03_BinOrder.calls (k : Nat) (A0 : Option Addr) (c0 : Nat) (l0 : List Int) (a1 : Int) (r : Bool) (w : World) (hr0 : Kd.C (Kd.int .i64) w A0 l0.length l0) (hc0 : l0.length ≤ c0) (h : beguinagelaw03_BinOrder.f k l0 a1 = some r) (hr_ : Aside0 (r = true)) :
    Calls Try.prog 3 #[.slice A0 l0.length c0, .int .i64 a1] w fun e w' => e = .returned (.bool r) ∧ Below w.heap.size w w' := by
  have HR0 := Aside0.mk hr0
  have HC0 := Aside0.mk hc0
  clear hr0 hc0
  have HB := Aside0.mk (Below.refl w.heap.size w)
  have H : ((beguinagelaw00_Place.f a1 7).bind fun t112 => (beguinagelaw03_BinOrder.l0 k l0 (wrap64 (1 + t112)) (⟨#[]⟩ : ByteArray) ([] : List Int) 0)) = some r := h
  clear h
  replace H := Option.bind_eq_some_iff.mp H
  obtain ⟨t112, A30, H⟩ := H
  replace H : (beguinagelaw03_BinOrder.l0 k l0 (wrap64 (1 + t112)) (⟨#[]⟩ : ByteArray) ([] : List Int) 0) = some r := H
  have A3 := Aside0.mk A30
  clear A30
  have H' := Aside0.mk H
  clear H
  go_enter Try.func3, Try.ntmps3
  go_wp2_with (first | (go_at_call 5; (with_reducible refine (beguinagelaw00_Place.calls a1 7 t112 _ A3.out).mono ?_); rintro e w' ⟨rfl, ⟨nd, rfl⟩⟩; (try first | exact ⟨rfl, _, World.drewN_drewN _ _ _⟩ | exact ⟨rfl, _, Eq.trans (World.drewN_drewN _ _ _) (congrArg (World.drewN _) (Nat.add_assoc _ _ _))⟩)))
  repeat (go_quiet (first | (go_at_call 5; (with_reducible refine (beguinagelaw00_Place.calls a1 7 t112 _ A3.out).mono ?_); rintro e w' ⟨rfl, ⟨nd, rfl⟩⟩; (try first | exact ⟨rfl, _, World.drewN_drewN _ _ _⟩ | exact ⟨rfl, _, Eq.trans (World.drewN_drewN _ _ _) (congrArg (World.drewN _) (Nat.add_assoc _ _ _))⟩))); try go_wp2_with (first | (go_at_call 5; (with_reducible refine (beguinagelaw00_Place.calls a1 7 t112 _ A3.out).mono ?_); rintro e w' ⟨rfl, ⟨nd, rfl⟩⟩; (try first | exact ⟨rfl, _, World.drewN_drewN _ _ _⟩ | exact ⟨rfl, _, Eq.trans (World.drewN_drewN _ _ _) (congrArg (World.drewN _) (Nat.add_assoc _ _ _))⟩))))
  go_loopg [6, 7, 8] k (fun kq v6 v7 v8 w' => ∃ (x6_1 : ByteArray) (x7_1 : List Int) (x8_1 : Int), v6 = .string x6_1 ∧ v8 = .int .i64 x8_1 ∧ Aside0 (beguinagelaw03_BinOrder.l0 kq l0 (wrap64 (1 + t112)) x6_1 x7_1 x8_1 = some r) ∧ Aside0 (kq ≤ k) ∧ Aside0 (Kd.R (Kd.int .i64) 3 w' w.heap.size (fun _ => True) v7 x7_1) ∧ Aside0 (Below w.heap.size w w'))
  case atStart => exact ⟨((⟨#[]⟩ : ByteArray)), (([] : List Int)), (0), (by first | rfl | (simp; done) | (simp [*]; done)), (by first | rfl | (simp; done) | (simp [*]; done)), H', ⟨Nat.le_refl _⟩, ⟨by first | exact Kd.R_nil _ _ _ _ _ | exact Kd.N_nil _ _ _ _ _ | exact Kd.V_nil _ _ _ _ _ | exact Kd.Q_nil _ _ _ _ _ | exact Kd.S_nil _ _ _ _ _⟩, ⟨by repeat (first | (with_reducible first | exact HB.out | apply below_alloc | apply pw_below_drewN | apply below_drew1) | exact HB.out)⟩⟩
  case round =>
    clear H'
    try clear p2
    try clear c3
    obtain ⟨x6_1, x7_1, x8_1, rfl, rfl, HA, HK1, HO_7, HB⟩ := hrel
    cases gk with
    | zero => exact absurd HA.out (by simp [beguinagelaw03_BinOrder.l0])
    | succ k1 =>
      have H := HA.out
      clear HA
      simp only [beguinagelaw03_BinOrder.l0] at H
      have HC4 := Aside0.mk H
      clear H
      go_upto_region 5 with (fail)
      repeat (go_quiet (fail); go_upto_region 5 with (fail))
      go_cut [27] (fun v27 wc => ∃ (kq : Nat) (x27_3 : Bool), v27 = .bool x27_3 ∧ Aside0 (beguinagelaw03_BinOrder.j1 kq l0 (wrap64 (1 + t112)) x6_1 x7_1 x8_1 x27_3 = some r) ∧ Aside0 (kq ≤ k1) ∧ Aside0 (Kd.R (Kd.int .i64) 3 wc w.heap.size (fun _ => True) u7 x7_1) ∧ Aside0 (Below w.heap.size w wc))
      case first =>
        have H := HC4.out
        clear HC4
        by_cases c5 : x8_1 < (l0.length : Int)
        · rw [if_pos c5] at H
          have c5b0 : decide (x8_1 < (l0.length : Int)) = true := decide_eq_true c5
          clear c5
          (first | rw [c5b0] | (simp only [i64_w, i32_w]; rw [c5b0]) | skip)
          have H' := Aside0.mk H
          clear H
          go_wp2
          repeat (go_quiet (fail); try go_wp2)
          go_meet
          case rel => exact ⟨_, (decide (x8_1 < 30)), (by first | rfl | (simp; done) | (simp [*]; done)), H', ⟨by have := HK1.out; first | omega | exact Nat.le_refl _⟩, ⟨by (with_reducible repeat (first | apply Kd.R_alloc | apply Kd.R_drewN | apply Kd.R_drew)); exact HO_7.out⟩, ⟨by repeat (first | (with_reducible first | exact HB.out | apply below_alloc | apply pw_below_drewN | apply below_drew1) | exact HB.out)⟩⟩
        · rw [if_neg c5] at H
          have c5b0 : decide (x8_1 < (l0.length : Int)) = false := decide_eq_false c5
          clear c5
          (first | rw [c5b0] | (simp only [i64_w, i32_w]; rw [c5b0]) | skip)
          have H' := Aside0.mk H
          clear H
          go_wp2
          repeat (go_quiet (fail); try go_wp2)
          go_meet
          case rel => exact ⟨_, (false), (by first | rfl | (simp; done) | (simp [*]; done)), H', ⟨by have := HK1.out; first | omega | exact Nat.le_refl _⟩, ⟨by (with_reducible repeat (first | apply Kd.R_alloc | apply Kd.R_drewN | apply Kd.R_drew)); exact HO_7.out⟩, ⟨by repeat (first | (with_reducible first | exact HB.out | apply below_alloc | apply pw_below_drewN | apply below_drew1) | exact HB.out)⟩⟩
      case rest =>
        clear HC4
        try clear p2
        try clear c3
        try clear c5
        try clear c5b0
        try clear p2
        obtain ⟨kq, x27_3, rfl, HA, HJ3, HO_7, HB⟩ := hcut
        cases kq with
        | zero => exact absurd HA.out (by simp [beguinagelaw03_BinOrder.j1])
        | succ kj3 =>
          have H := HA.out
          clear HA
          simp only [beguinagelaw03_BinOrder.j1] at H
          by_cases c6 : x27_3 = true
          · subst c6
            have H1 : (if 0 ≤ x8_1 then (if x8_1 < (l0.length : Int) then (if 0 ≤ (IntKind.u64.wrap (wrap64 ((wrap64 (8 * (mn (wrap64 (1 + t112)) 7))) - 1))) then ((beguinagelaw00_Place.f (rd l0 x8_1) (shl .i64 1 (IntKind.u64.wrap (wrap64 ((wrap64 (8 * (mn (wrap64 (1 + t112)) 7))) - 1))))).bind fun t114 => (if x7_1.length < 17592186044416 then ((bin_Put.f kj3 t114 (wrap64 (1 + t112))).bind fun t118 => (if x6_1.size + t118.size ≤ 9223372036854775807 then (beguinagelaw03_BinOrder.l0 kj3 l0 (wrap64 (1 + t112)) (x6_1 ++ t118) (x7_1 ++ [t114]) (wrap64 (x8_1 + 1))) else (none))) else (none))) else (none)) else (none)) else (none)) = some r := by rw [if_pos rfl] at H; exact H
            clear H
            have H := H1
            clear H1
            by_cases c7 : 0 ≤ x8_1
            · rw [if_pos c7] at H
              have c7b0 : decide (0 ≤ x8_1) = true := decide_eq_true c7
              clear c7
              by_cases c8 : x8_1 < (l0.length : Int)
              · rw [if_pos c8] at H
                have c8b0 : decide (x8_1 < (l0.length : Int)) = true := decide_eq_true c8
                clear c8
                obtain ⟨ji9, hji9⟩ : ∃ j_ : Int, (mn (wrap64 (1 + t112)) 7) = j_ := ⟨_, rfl⟩
                replace H : (if 0 ≤ (IntKind.u64.wrap (wrap64 ((wrap64 (8 * (ji9))) - 1))) then ((beguinagelaw00_Place.f (rd l0 x8_1) (shl .i64 1 (IntKind.u64.wrap (wrap64 ((wrap64 (8 * (ji9))) - 1))))).bind fun t114 => (if x7_1.length < 17592186044416 then ((bin_Put.f kj3 t114 (wrap64 (1 + t112))).bind fun t118 => (if x6_1.size + t118.size ≤ 9223372036854775807 then (beguinagelaw03_BinOrder.l0 kj3 l0 (wrap64 (1 + t112)) (x6_1 ++ t118) (x7_1 ++ [t114]) (wrap64 (x8_1 + 1))) else (none))) else (none))) else (none)) = some r := by first | (rw [hji9] at H; exact H) | (simp only [hji9] at H ⊢; exact H)
                have hji9_ : (if 7 < (wrap64 (1 + t112)) then 7 else (wrap64 (1 + t112))) = ji9 := hji9
                obtain ⟨ji10, hji10⟩ : ∃ j_ : Int, (IntKind.u64.wrap (wrap64 ((wrap64 (8 * (ji9))) - 1))) = j_ := ⟨_, rfl⟩
                replace H : (if 0 ≤ (ji10) then ((beguinagelaw00_Place.f (rd l0 x8_1) (shl .i64 1 (ji10))).bind fun t114 => (if x7_1.length < 17592186044416 then ((bin_Put.f kj3 t114 (wrap64 (1 + t112))).bind fun t118 => (if x6_1.size + t118.size ≤ 9223372036854775807 then (beguinagelaw03_BinOrder.l0 kj3 l0 (wrap64 (1 + t112)) (x6_1 ++ t118) (x7_1 ++ [t114]) (wrap64 (x8_1 + 1))) else (none))) else (none))) else (none)) = some r := by first | (rw [hji10] at H; exact H) | (simp only [hji10] at H ⊢; exact H)
                by_cases c11 : 0 ≤ (ji10)
                · rw [if_pos c11] at H
                  have c11b0 := eq_true c11
                  have c11b1 : decide (0 ≤ (ji10)) = true := decide_eq_true c11
                  clear c11
                  obtain ⟨ji12, hji12⟩ : ∃ j_ : Int, (shl .i64 1 (ji10)) = j_ := ⟨_, rfl⟩
                  replace H : ((beguinagelaw00_Place.f (rd l0 x8_1) (ji12)).bind fun t114 => (if x7_1.length < 17592186044416 then ((bin_Put.f kj3 t114 (wrap64 (1 + t112))).bind fun t118 => (if x6_1.size + t118.size ≤ 9223372036854775807 then (beguinagelaw03_BinOrder.l0 kj3 l0 (wrap64 (1 + t112)) (x6_1 ++ t118) (x7_1 ++ [t114]) (wrap64 (x8_1 + 1))) else (none))) else (none))) = some r := by first | (rw [hji12] at H; exact H) | (simp only [hji12] at H ⊢; exact H)
                  have hji12_ : (IntKind.i64.wrap (1 * 2 ^ min (ji10).toNat 64)) = ji12 := hji12
                  have hji12z : (ji10) ≤ 64 → (IntKind.i64.wrap (1 * 2 ^ (ji10).toNat)) = ji12 := shl_small hji12
                  have hji12u : (IntKind.i64.wrap (2 ^ min (ji10).toNat 64)) = ji12 := by have h_ := hji12_; rw [Int.one_mul] at h_; exact h_
                  have hji12v : (ji10) ≤ 64 → (IntKind.i64.wrap (2 ^ (ji10).toNat)) = ji12 := fun hle_ => by have h_ := hji12z hle_; rw [Int.one_mul] at h_; exact h_
                  have hji12y : (wrap64 (1 * 2 ^ min (ji10).toNat 64)) = ji12 := (i64_w _).symm.trans hji12_
                  have hji12x : (ji10) ≤ 64 → (wrap64 (1 * 2 ^ (ji10).toNat)) = ji12 := fun h_ => (i64_w _).symm.trans (hji12z h_)
                  replace H := Option.bind_eq_some_iff.mp H
                  obtain ⟨t114, A130, H⟩ := H
                  replace H : (if x7_1.length < 17592186044416 then ((bin_Put.f kj3 t114 (wrap64 (1 + t112))).bind fun t118 => (if x6_1.size + t118.size ≤ 9223372036854775807 then (beguinagelaw03_BinOrder.l0 kj3 l0 (wrap64 (1 + t112)) (x6_1 ++ t118) (x7_1 ++ [t114]) (wrap64 (x8_1 + 1))) else (none))) else (none)) = some r := H
                  have A13 := Aside0.mk A130
                  clear A130
                  by_cases c14 : x7_1.length < 17592186044416
                  · rw [if_pos c14] at H
                    have LMc14 := Aside0.mk c14
                    clear c14
                    obtain ⟨y115, hy115⟩ : ∃ y_ : List Int, y_ = (x7_1 ++ [t114]) := ⟨_, rfl⟩
                    replace H : ((bin_Put.f kj3 t114 (wrap64 (1 + t112))).bind fun t118 => (if x6_1.size + t118.size ≤ 9223372036854775807 then (beguinagelaw03_BinOrder.l0 kj3 l0 (wrap64 (1 + t112)) (x6_1 ++ t118) y115 (wrap64 (x8_1 + 1))) else (none))) = some r := by first | (rw [hy115]; with_reducible exact H) | (have H2_ := (Option.bind_some _ _).symm.trans H; rw [hy115]; with_reducible exact H2_) | (have H2_ := (Option.bind_some _ _).symm.trans H; with_reducible exact H2_) | with_reducible exact H | (rw [hy115]; exact H) | exact H
                    have Ny115 := Aside0.mk hy115
                    clear hy115
                    replace H := Option.bind_eq_some_iff.mp H
                    obtain ⟨t118, A150, H⟩ := H
                    replace H : (if x6_1.size + t118.size ≤ 9223372036854775807 then (beguinagelaw03_BinOrder.l0 kj3 l0 (wrap64 (1 + t112)) (x6_1 ++ t118) y115 (wrap64 (x8_1 + 1))) else (none)) = some r := H
                    have A15 := Aside0.mk A150
                    clear A150
                    by_cases c16 : x6_1.size + t118.size ≤ 9223372036854775807
                    · rw [if_pos c16] at H
                      have c16b0 := eq_true c16
                      have c16b1 : decide (x6_1.size + t118.size ≤ 9223372036854775807) = true := decide_eq_true c16
                      try have c16b2 : (9223372036854775807 < x6_1.size + t118.size) = False := eq_false (Nat.not_lt.2 c16)
                      have H' := Aside0.mk H
                      clear H
                      have p113 : 0 ≤ (x8_1 : Int) := of_decide_eq_true (by first | (with_reducible assumption) | assumption)
                      have q113 : x8_1 < (l0.length : Int) := of_decide_eq_true (by first | (with_reducible assumption) | assumption)
                      obtain ⟨ad113, e113, hx113_0⟩ := Kd.at_int HR0.out x8_1 p113 q113
                      cases e113
                      replace hx113_0 := (HB.out.cell (World.block_lt_of_cell? w _ hx113_0)).trans hx113_0
                      replace p113 := eq_true p113
                      replace q113 := eq_true q113
                      go_wp2_with (first | (go_at_call 5; (with_reducible refine (beguinagelaw00_Place.calls (rd l0 x8_1) ji12 t114 _ A13.out).mono ?_); rintro e w' ⟨rfl, ⟨nd, rfl⟩⟩; (try first | exact ⟨rfl, _, World.drewN_drewN _ _ _⟩ | exact ⟨rfl, _, Eq.trans (World.drewN_drewN _ _ _) (congrArg (World.drewN _) (Nat.add_assoc _ _ _))⟩)) | ((with_reducible refine gate_builtin (b := .append) (xs := #[.tmp 41, .tmp 43]) rfl ?_); (try (refine gate_guard (by rfl) ?_; dsimp only)); at_builtin; refine Kd.R_append (Kd.int .i64) (w0 := w) w.heap.size rfl (.tmp 41) (.tmp 43) 22 3 (.int .i64 0) 8 rfl Try.underlying22 info3 rfl (by decide) (by omega) u7 x7_1 t114 [.int .i64 t114] (fun _ => True) (fun _ => False) rfl rfl ?aP (fun _ hk => hk.elim) ?aF ?aO ?aB ?aS ?aL ?_; (case aP => exact rfl); (case aB => exact (by repeat (first | (with_reducible first | exact HB.out | apply below_alloc | apply pw_below_drewN | apply below_drew1) | exact HB.out))); (case aF => exact (fun _ _ => trivial)); (case aO => exact (by (with_reducible repeat (first | apply Kd.R_alloc | apply Kd.R_drewN | apply Kd.R_drew)); exact HO_7.out)); (case aS => exact (below_size (by repeat (first | (with_reducible first | exact HB.out | apply below_alloc | apply pw_below_drewN | apply below_drew1) | exact HB.out)))); (case aL => have := LMc14.out; omega); intro v116 w17 ho hb hg hat; rw [← Ny115.out] at ho; have n0_ := Aside0.mk (hb); have n1_ := Aside0.mk (ho); clear HB; clear HO_7; have HB := n0_; have HO117 := n1_; clear n0_ n1_; clear ho hb hg hat) | (go_at_call 6; (with_reducible refine (bin_Put.calls kj3 t114 (wrap64 (1 + t112)) t118 _ A15.out).mono ?_); rintro e w18 ⟨rfl, hb⟩; have n0_ := Aside0.mk (Kd.R_below (by (with_reducible repeat (first | apply Kd.R_alloc | apply Kd.R_drewN | apply Kd.R_drew)); exact HO117.out) hb); have n1_ := Aside0.mk (below_step (by repeat (first | (with_reducible first | exact HB.out | apply below_alloc | apply pw_below_drewN | apply below_drew1) | exact HB.out)) hb); clear HO117; clear HB; have HO117 := n0_; have HB := n1_; clear n0_ n1_; (try clear hb); (try clear hb2); (try clear hk); (try clear hi)))
                      repeat (go_quiet (first | (go_at_call 5; (with_reducible refine (beguinagelaw00_Place.calls (rd l0 x8_1) ji12 t114 _ A13.out).mono ?_); rintro e w' ⟨rfl, ⟨nd, rfl⟩⟩; (try first | exact ⟨rfl, _, World.drewN_drewN _ _ _⟩ | exact ⟨rfl, _, Eq.trans (World.drewN_drewN _ _ _) (congrArg (World.drewN _) (Nat.add_assoc _ _ _))⟩)) | ((with_reducible refine gate_builtin (b := .append) (xs := #[.tmp 41, .tmp 43]) rfl ?_); (try (refine gate_guard (by rfl) ?_; dsimp only)); at_builtin; refine Kd.R_append (Kd.int .i64) (w0 := w) w.heap.size rfl (.tmp 41) (.tmp 43) 22 3 (.int .i64 0) 8 rfl Try.underlying22 info3 rfl (by decide) (by omega) u7 x7_1 t114 [.int .i64 t114] (fun _ => True) (fun _ => False) rfl rfl ?aP (fun _ hk => hk.elim) ?aF ?aO ?aB ?aS ?aL ?_; (case aP => exact rfl); (case aB => exact (by repeat (first | (with_reducible first | exact HB.out | apply below_alloc | apply pw_below_drewN | apply below_drew1) | exact HB.out))); (case aF => exact (fun _ _ => trivial)); (case aO => exact (by (with_reducible repeat (first | apply Kd.R_alloc | apply Kd.R_drewN | apply Kd.R_drew)); exact HO_7.out)); (case aS => exact (below_size (by repeat (first | (with_reducible first | exact HB.out | apply below_alloc | apply pw_below_drewN | apply below_drew1) | exact HB.out)))); (case aL => have := LMc14.out; omega); intro v116 w17 ho hb hg hat; rw [← Ny115.out] at ho; have n0_ := Aside0.mk (hb); have n1_ := Aside0.mk (ho); clear HB; clear HO_7; have HB := n0_; have HO117 := n1_; clear n0_ n1_; clear ho hb hg hat) | (go_at_call 6; (with_reducible refine (bin_Put.calls kj3 t114 (wrap64 (1 + t112)) t118 _ A15.out).mono ?_); rintro e w18 ⟨rfl, hb⟩; have n0_ := Aside0.mk (Kd.R_below (by (with_reducible repeat (first | apply Kd.R_alloc | apply Kd.R_drewN | apply Kd.R_drew)); exact HO117.out) hb); have n1_ := Aside0.mk (below_step (by repeat (first | (with_reducible first | exact HB.out | apply below_alloc | apply pw_below_drewN | apply below_drew1) | exact HB.out)) hb); clear HO117; clear HB; have HO117 := n0_; have HB := n1_; clear n0_ n1_; (try clear hb); (try clear hb2); (try clear hk); (try clear hi))); try go_wp2_with (first | (go_at_call 5; (with_reducible refine (beguinagelaw00_Place.calls (rd l0 x8_1) ji12 t114 _ A13.out).mono ?_); rintro e w' ⟨rfl, ⟨nd, rfl⟩⟩; (try first | exact ⟨rfl, _, World.drewN_drewN _ _ _⟩ | exact ⟨rfl, _, Eq.trans (World.drewN_drewN _ _ _) (congrArg (World.drewN _) (Nat.add_assoc _ _ _))⟩)) | ((with_reducible refine gate_builtin (b := .append) (xs := #[.tmp 41, .tmp 43]) rfl ?_); (try (refine gate_guard (by rfl) ?_; dsimp only)); at_builtin; refine Kd.R_append (Kd.int .i64) (w0 := w) w.heap.size rfl (.tmp 41) (.tmp 43) 22 3 (.int .i64 0) 8 rfl Try.underlying22 info3 rfl (by decide) (by omega) u7 x7_1 t114 [.int .i64 t114] (fun _ => True) (fun _ => False) rfl rfl ?aP (fun _ hk => hk.elim) ?aF ?aO ?aB ?aS ?aL ?_; (case aP => exact rfl); (case aB => exact (by repeat (first | (with_reducible first | exact HB.out | apply below_alloc | apply pw_below_drewN | apply below_drew1) | exact HB.out))); (case aF => exact (fun _ _ => trivial)); (case aO => exact (by (with_reducible repeat (first | apply Kd.R_alloc | apply Kd.R_drewN | apply Kd.R_drew)); exact HO_7.out)); (case aS => exact (below_size (by repeat (first | (with_reducible first | exact HB.out | apply below_alloc | apply pw_below_drewN | apply below_drew1) | exact HB.out)))); (case aL => have := LMc14.out; omega); intro v116 w17 ho hb hg hat; rw [← Ny115.out] at ho; have n0_ := Aside0.mk (hb); have n1_ := Aside0.mk (ho); clear HB; clear HO_7; have HB := n0_; have HO117 := n1_; clear n0_ n1_; clear ho hb hg hat) | (go_at_call 6; (with_reducible refine (bin_Put.calls kj3 t114 (wrap64 (1 + t112)) t118 _ A15.out).mono ?_); rintro e w18 ⟨rfl, hb⟩; have n0_ := Aside0.mk (Kd.R_below (by (with_reducible repeat (first | apply Kd.R_alloc | apply Kd.R_drewN | apply Kd.R_drew)); exact HO117.out) hb); have n1_ := Aside0.mk (below_step (by repeat (first | (with_reducible first | exact HB.out | apply below_alloc | apply pw_below_drewN | apply below_drew1) | exact HB.out)) hb); clear HO117; clear HB; have HO117 := n0_; have HB := n1_; clear n0_ n1_; (try clear hb); (try clear hb2); (try clear hk); (try clear hi))))
                      go_roundg kj3
                      case measure => have := HK1.out; have := HJ3.out; omega
                      case rel => exact ⟨(x6_1 ++ t118), (y115), (wrap64 (x8_1 + 1)), (by first | rfl | (simp; done) | (simp [*]; done)), (by first | rfl | (simp; done) | (simp [*]; done)), H', ⟨by have := HK1.out; have := HJ3.out; omega⟩, ⟨by (with_reducible repeat (first | apply Kd.R_alloc | apply Kd.R_drewN | apply Kd.R_drew)); exact HO117.out⟩, ⟨by repeat (first | (with_reducible first | exact HB.out | apply below_alloc | apply pw_below_drewN | apply below_drew1) | exact HB.out)⟩⟩
                    · rw [if_neg c16] at H
                      exact absurd H (by simp)
                  · rw [if_neg c14] at H
                    exact absurd H (by simp)
                · rw [if_neg c11] at H
                  exact absurd H (by simp)
              · rw [if_neg c8] at H
                exact absurd H (by simp)
            · rw [if_neg c7] at H
              exact absurd H (by simp)
          · replace c6 := Bool.eq_false_iff.mpr c6
            subst c6
            have H1 : (if (x6_1.size : Int) = (wrap64 ((wrap64 (1 + t112)) * (x7_1.length : Int))) then (beguinagelaw03_BinOrder.l1 kj3 (wrap64 (1 + t112)) x6_1 x7_1 0) else (some false)) = some r := by rw [if_neg (show ¬ (false = true) by decide)] at H; exact H
            clear H
            have H := H1
            clear H1
            by_cases c19 : (x6_1.size : Int) = (wrap64 ((wrap64 (1 + t112)) * (x7_1.length : Int)))
            · rw [if_pos c19] at H
              have c19b0 : ((x6_1.size : Int) == (wrap64 ((wrap64 (1 + t112)) * (x7_1.length : Int)))) = true := beq_iff_eq.mpr c19
              have c19b1 : ((x6_1.size : Int) != (wrap64 ((wrap64 (1 + t112)) * (x7_1.length : Int)))) = false := bne_eq_false_iff_eq.mpr c19
              clear c19
              have H' := Aside0.mk H
              clear H
              obtain ⟨Ao20, co20, eo20⟩ := Kd.R_slice HO_7.out
              subst eo20
              go_wp2
              repeat (go_quiet (fail); try go_wp2)
              go_loopg [10] kj3 (fun kq v10 w' => ∃ (x10_3 : Int), v10 = .int .i64 x10_3 ∧ Aside0 (beguinagelaw03_BinOrder.l1 kq (wrap64 (1 + t112)) x6_1 x7_1 x10_3 = some r) ∧ Aside0 (kq ≤ kj3) ∧ Aside0 (Kd.R (Kd.int .i64) 3 w' w.heap.size (fun _ => True) (.slice Ao20 x7_1.length co20) x7_1) ∧ Aside0 (Below w.heap.size w w'))
              case atStart => exact ⟨(0), (by first | rfl | (simp; done) | (simp [*]; done)), H', ⟨Nat.le_refl _⟩, ⟨by (with_reducible repeat (first | apply Kd.R_alloc | apply Kd.R_drewN | apply Kd.R_drew)); exact HO_7.out⟩, ⟨by repeat (first | (with_reducible first | exact HB.out | apply below_alloc | apply pw_below_drewN | apply below_drew1) | exact HB.out)⟩⟩
              case round =>
                clear H'
                try clear c1
                try clear p1
                try clear q1
                try clear hx1
                try clear p2
                try clear c3
                try clear c5
                try clear c5b0
                try clear c6
                try clear p6
                try clear c7
                try clear c7b0
                try clear c8
                try clear c8b0
                try clear c11
                try clear c11b0
                try clear c11b1
                try clear p11
                try clear q11
                try clear hx11
                try clear c14
                try clear c16
                try clear c16b0
                try clear c16b1
                try clear c16b2
                try clear c19
                try clear c19b0
                try clear c19b1
                try clear hx113_0
                try clear p113
                try clear p2
                try clear q113
                obtain ⟨x10_3, rfl, HA, HK3, HO_7, HB⟩ := hrel
                cases gk with
                | zero => exact absurd HA.out (by simp [beguinagelaw03_BinOrder.l1])
                | succ k3 =>
                  have H := HA.out
                  clear HA
                  simp only [beguinagelaw03_BinOrder.l1] at H
                  by_cases c21 : x10_3 < (x7_1.length : Int)
                  · rw [if_pos c21] at H
                    have c21b0 : decide (x10_3 < (x7_1.length : Int)) = true := decide_eq_true c21
                    clear c21
                    replace H := Option.bind_eq_some_iff.mp H
                    obtain ⟨⟨t119, t120⟩, A220, H⟩ := H
                    replace H : (if t120 = true then (if 0 ≤ x10_3 then (if t119 = (rd x7_1 x10_3) then (if 0 ≤ (wrap64 (x10_3 * (wrap64 (1 + t112)))) then (if (wrap64 (x10_3 * (wrap64 (1 + t112)))) < (x6_1.size : Int) then (if (wrap64 (bt x6_1 (wrap64 (x10_3 * (wrap64 (1 + t112)))))) = (Int.tmod (rd x7_1 x10_3) 256) then (beguinagelaw03_BinOrder.l1 k3 (wrap64 (1 + t112)) x6_1 x7_1 (wrap64 (x10_3 + 1))) else (some false)) else (none)) else (none)) else (some false)) else (none)) else (some false)) = some r := H
                    have A22 := Aside0.mk A220
                    clear A220
                    by_cases c23 : t120 = true
                    · subst c23
                      have H1 : (if 0 ≤ x10_3 then (if t119 = (rd x7_1 x10_3) then (if 0 ≤ (wrap64 (x10_3 * (wrap64 (1 + t112)))) then (if (wrap64 (x10_3 * (wrap64 (1 + t112)))) < (x6_1.size : Int) then (if (wrap64 (bt x6_1 (wrap64 (x10_3 * (wrap64 (1 + t112)))))) = (Int.tmod (rd x7_1 x10_3) 256) then (beguinagelaw03_BinOrder.l1 k3 (wrap64 (1 + t112)) x6_1 x7_1 (wrap64 (x10_3 + 1))) else (some false)) else (none)) else (none)) else (some false)) else (none)) = some r := by rw [if_pos rfl] at H; exact H
                      clear H
                      have H := H1
                      clear H1
                      by_cases c24 : 0 ≤ x10_3
                      · rw [if_pos c24] at H
                        have c24b0 : decide (0 ≤ x10_3) = true := decide_eq_true c24
                        clear c24
                        by_cases c25 : t119 = (rd x7_1 x10_3)
                        · rw [if_pos c25] at H
                          have c25b0 : (t119 == (rd x7_1 x10_3)) = true := beq_iff_eq.mpr c25
                          have c25b1 : (t119 != (rd x7_1 x10_3)) = false := bne_eq_false_iff_eq.mpr c25
                          clear c25
                          obtain ⟨ji26, hji26⟩ : ∃ j_ : Int, (wrap64 (x10_3 * (wrap64 (1 + t112)))) = j_ := ⟨_, rfl⟩
                          replace H : (if 0 ≤ (ji26) then (if (ji26) < (x6_1.size : Int) then (if (wrap64 (bt x6_1 (ji26))) = (Int.tmod (rd x7_1 x10_3) 256) then (beguinagelaw03_BinOrder.l1 k3 (wrap64 (1 + t112)) x6_1 x7_1 (wrap64 (x10_3 + 1))) else (some false)) else (none)) else (none)) = some r := by first | (rw [hji26] at H; exact H) | (simp only [hji26] at H ⊢; exact H)
                          (try rw [hji26] at A22)
                          have hji26w : (IntKind.i64.wrap (x10_3 * (wrap64 (1 + t112)))) = ji26 := (i64_w _).trans hji26
                          by_cases c27 : 0 ≤ (ji26)
                          · rw [if_pos c27] at H
                            have c27b0 : decide (0 ≤ (ji26)) = true := decide_eq_true c27
                            clear c27
                            by_cases c28 : (ji26) < (x6_1.size : Int)
                            · rw [if_pos c28] at H
                              have c28b0 : decide ((ji26) < (x6_1.size : Int)) = true := decide_eq_true c28
                              clear c28
                              by_cases c30 : (wrap64 (bt x6_1 (ji26))) = (Int.tmod (rd x7_1 x10_3) 256)
                              · rw [if_pos c30] at H
                                have c30b0 : ((wrap64 (bt x6_1 (ji26))) == (Int.tmod (rd x7_1 x10_3) 256)) = true := beq_iff_eq.mpr c30
                                have c30b1 : ((wrap64 (bt x6_1 (ji26))) != (Int.tmod (rd x7_1 x10_3) 256)) = false := bne_eq_false_iff_eq.mpr c30
                                clear c30
                                have H' := Aside0.mk H
                                clear H
                                go_wp2_with (first | (go_at_call 7; (with_reducible refine (bin_Get.calls x6_1 ji26 (wrap64 (1 + t112)) t119 true _ A22.out).mono ?_); rintro e w31 ⟨rfl, hb⟩; have n0_ := Aside0.mk (Kd.R_below (by (with_reducible repeat (first | apply Kd.R_alloc | apply Kd.R_drewN | apply Kd.R_drew)); exact HO_7.out) hb); have n1_ := Aside0.mk (below_step (by repeat (first | (with_reducible first | exact HB.out | apply below_alloc | apply pw_below_drewN | apply below_drew1) | exact HB.out)) hb); clear HO_7; clear HB; have HO_7 := n0_; have HB := n1_; clear n0_ n1_; (try clear hb); (try clear hb2); (try clear hk); (try clear hi); have p121 : 0 ≤ (x10_3 : Int) := of_decide_eq_true (by first | (with_reducible assumption) | assumption); have q121 : x10_3 < (x7_1.length : Int) := of_decide_eq_true (by first | (with_reducible assumption) | assumption); obtain ⟨ad121, e121, hx121_0⟩ := Kd.at_int (Kd.R_reads' HO_7.out).2.2 x10_3 p121 q121; cases e121; replace p121 := eq_true p121; replace q121 := eq_true q121; have p29 : 0 ≤ ((ji26) : Int) := of_decide_eq_true (by first | (with_reducible assumption) | assumption); have q29 : (ji26) < (x6_1.size : Int) := of_decide_eq_true (by first | (with_reducible assumption) | assumption); have hx29 := bt_at x6_1 (ji26); replace p29 := eq_true p29; replace q29 := eq_true q29; have p122 : 0 ≤ (x10_3 : Int) := of_decide_eq_true (by first | (with_reducible assumption) | assumption); have q122 : x10_3 < (x7_1.length : Int) := of_decide_eq_true (by first | (with_reducible assumption) | assumption); obtain ⟨ad122, e122, hx122_0⟩ := Kd.at_int (Kd.R_reads' HO_7.out).2.2 x10_3 p122 q122; obtain rfl : ad121 = ad122 := (by injection e122); replace p122 := eq_true p122; replace q122 := eq_true q122))
                                repeat (go_quiet (first | (go_at_call 7; (with_reducible refine (bin_Get.calls x6_1 ji26 (wrap64 (1 + t112)) t119 true _ A22.out).mono ?_); rintro e w31 ⟨rfl, hb⟩; have n0_ := Aside0.mk (Kd.R_below (by (with_reducible repeat (first | apply Kd.R_alloc | apply Kd.R_drewN | apply Kd.R_drew)); exact HO_7.out) hb); have n1_ := Aside0.mk (below_step (by repeat (first | (with_reducible first | exact HB.out | apply below_alloc | apply pw_below_drewN | apply below_drew1) | exact HB.out)) hb); clear HO_7; clear HB; have HO_7 := n0_; have HB := n1_; clear n0_ n1_; (try clear hb); (try clear hb2); (try clear hk); (try clear hi); have p121 : 0 ≤ (x10_3 : Int) := of_decide_eq_true (by first | (with_reducible assumption) | assumption); have q121 : x10_3 < (x7_1.length : Int) := of_decide_eq_true (by first | (with_reducible assumption) | assumption); obtain ⟨ad121, e121, hx121_0⟩ := Kd.at_int (Kd.R_reads' HO_7.out).2.2 x10_3 p121 q121; cases e121; replace p121 := eq_true p121; replace q121 := eq_true q121; have p29 : 0 ≤ ((ji26) : Int) := of_decide_eq_true (by first | (with_reducible assumption) | assumption); have q29 : (ji26) < (x6_1.size : Int) := of_decide_eq_true (by first | (with_reducible assumption) | assumption); have hx29 := bt_at x6_1 (ji26); replace p29 := eq_true p29; replace q29 := eq_true q29; have p122 : 0 ≤ (x10_3 : Int) := of_decide_eq_true (by first | (with_reducible assumption) | assumption); have q122 : x10_3 < (x7_1.length : Int) := of_decide_eq_true (by first | (with_reducible assumption) | assumption); obtain ⟨ad122, e122, hx122_0⟩ := Kd.at_int (Kd.R_reads' HO_7.out).2.2 x10_3 p122 q122; obtain rfl : ad121 = ad122 := (by injection e122); replace p122 := eq_true p122; replace q122 := eq_true q122)); try go_wp2_with (first | (go_at_call 7; (with_reducible refine (bin_Get.calls x6_1 ji26 (wrap64 (1 + t112)) t119 true _ A22.out).mono ?_); rintro e w31 ⟨rfl, hb⟩; have n0_ := Aside0.mk (Kd.R_below (by (with_reducible repeat (first | apply Kd.R_alloc | apply Kd.R_drewN | apply Kd.R_drew)); exact HO_7.out) hb); have n1_ := Aside0.mk (below_step (by repeat (first | (with_reducible first | exact HB.out | apply below_alloc | apply pw_below_drewN | apply below_drew1) | exact HB.out)) hb); clear HO_7; clear HB; have HO_7 := n0_; have HB := n1_; clear n0_ n1_; (try clear hb); (try clear hb2); (try clear hk); (try clear hi); have p121 : 0 ≤ (x10_3 : Int) := of_decide_eq_true (by first | (with_reducible assumption) | assumption); have q121 : x10_3 < (x7_1.length : Int) := of_decide_eq_true (by first | (with_reducible assumption) | assumption); obtain ⟨ad121, e121, hx121_0⟩ := Kd.at_int (Kd.R_reads' HO_7.out).2.2 x10_3 p121 q121; cases e121; replace p121 := eq_true p121; replace q121 := eq_true q121; have p29 : 0 ≤ ((ji26) : Int) := of_decide_eq_true (by first | (with_reducible assumption) | assumption); have q29 : (ji26) < (x6_1.size : Int) := of_decide_eq_true (by first | (with_reducible assumption) | assumption); have hx29 := bt_at x6_1 (ji26); replace p29 := eq_true p29; replace q29 := eq_true q29; have p122 : 0 ≤ (x10_3 : Int) := of_decide_eq_true (by first | (with_reducible assumption) | assumption); have q122 : x10_3 < (x7_1.length : Int) := of_decide_eq_true (by first | (with_reducible assumption) | assumption); obtain ⟨ad122, e122, hx122_0⟩ := Kd.at_int (Kd.R_reads' HO_7.out).2.2 x10_3 p122 q122; obtain rfl : ad121 = ad122 := (by injection e122); replace p122 := eq_true p122; replace q122 := eq_true q122)))
                                go_roundg k3
                                case measure => have := HK1.out; have := HJ3.out; have := HK3.out; omega
                                case rel => exact ⟨(wrap64 (x10_3 + 1)), (by first | rfl | (simp; done) | (simp [*]; done)), H', ⟨by have := HK1.out; have := HJ3.out; have := HK3.out; omega⟩, ⟨by (with_reducible repeat (first | apply Kd.R_alloc | apply Kd.R_drewN | apply Kd.R_drew)); exact HO_7.out⟩, ⟨by repeat (first | (with_reducible first | exact HB.out | apply below_alloc | apply pw_below_drewN | apply below_drew1) | exact HB.out)⟩⟩
                              · rw [if_neg c30] at H
                                have c30b0 : ((wrap64 (bt x6_1 (ji26))) == (Int.tmod (rd x7_1 x10_3) 256)) = false := beq_eq_false_iff_ne.mpr c30
                                have c30b1 : ((wrap64 (bt x6_1 (ji26))) != (Int.tmod (rd x7_1 x10_3) 256)) = true := bne_iff_ne.mpr c30
                                obtain rfl := Option.some.inj H
                                exact absurd hr_.out (by simp)
                            · rw [if_neg c28] at H
                              exact absurd H (by simp)
                          · rw [if_neg c27] at H
                            exact absurd H (by simp)
                        · rw [if_neg c25] at H
                          have c25b0 : (t119 == (rd x7_1 x10_3)) = false := beq_eq_false_iff_ne.mpr c25
                          have c25b1 : (t119 != (rd x7_1 x10_3)) = true := bne_iff_ne.mpr c25
                          obtain rfl := Option.some.inj H
                          exact absurd hr_.out (by simp)
                      · rw [if_neg c24] at H
                        exact absurd H (by simp)
                    · replace c23 := Bool.eq_false_iff.mpr c23
                      subst c23
                      have H1 : (some false) = some r := by rw [if_neg (show ¬ (false = true) by decide)] at H; exact H
                      clear H
                      have H := H1
                      clear H1
                      obtain rfl := Option.some.inj H
                      exact absurd hr_.out (by simp)
                  · rw [if_neg c21] at H
                    have c21b0 : decide (x10_3 < (x7_1.length : Int)) = false := decide_eq_false c21
                    clear c21
                    replace H := Option.bind_eq_some_iff.mp H
                    obtain ⟨⟨t123, t124⟩, A320, H⟩ := H
                    replace H : ((bin_Get.f x6_1 (x6_1.size : Int) 0).bind fun bt125 => (if t124 = true then (some false) else (if bt125.2 = true then (if bt125.1 = 0 then ((bin_Put.f k3 5 (wrap64 (-(wrap64 (1 + t112))))).bind fun t127 => (if t127.toList = ([] : List UInt8) then ((bin_Put.f k3 5 (wrap64 (7 + (wrap64 (1 + t112))))).bind fun t128 => (if (t128.size : Int) = 7 then ((beguinagelaw03_awake.f k3).bind fun t129 => (some t129)) else (some false))) else (some false))) else (some false)) else (some false)))) = some r := H
                    have A32 := Aside0.mk A320
                    clear A320
                    replace H := Option.bind_eq_some_iff.mp H
                    obtain ⟨⟨t125, t126⟩, A330, H⟩ := H
                    replace H : (if t124 = true then (some false) else (if t126 = true then (if t125 = 0 then ((bin_Put.f k3 5 (wrap64 (-(wrap64 (1 + t112))))).bind fun t127 => (if t127.toList = ([] : List UInt8) then ((bin_Put.f k3 5 (wrap64 (7 + (wrap64 (1 + t112))))).bind fun t128 => (if (t128.size : Int) = 7 then ((beguinagelaw03_awake.f k3).bind fun t129 => (some t129)) else (some false))) else (some false))) else (some false)) else (some false))) = some r := H
                    have A33 := Aside0.mk A330
                    clear A330
                    by_cases c34 : t124 = true
                    · subst c34
                      have H1 : (some false) = some r := by rw [if_pos rfl] at H; exact H
                      clear H
                      have H := H1
                      clear H1
                      obtain rfl := Option.some.inj H
                      exact absurd hr_.out (by simp)
                    · replace c34 := Bool.eq_false_iff.mpr c34
                      subst c34
                      have H1 : (if t126 = true then (if t125 = 0 then ((bin_Put.f k3 5 (wrap64 (-(wrap64 (1 + t112))))).bind fun t127 => (if t127.toList = ([] : List UInt8) then ((bin_Put.f k3 5 (wrap64 (7 + (wrap64 (1 + t112))))).bind fun t128 => (if (t128.size : Int) = 7 then ((beguinagelaw03_awake.f k3).bind fun t129 => (some t129)) else (some false))) else (some false))) else (some false)) else (some false)) = some r := by rw [if_neg (show ¬ (false = true) by decide)] at H; exact H
                      clear H
                      have H := H1
                      clear H1
                      by_cases c35 : t126 = true
                      · subst c35
                        have H1 : (if t125 = 0 then ((bin_Put.f k3 5 (wrap64 (-(wrap64 (1 + t112))))).bind fun t127 => (if t127.toList = ([] : List UInt8) then ((bin_Put.f k3 5 (wrap64 (7 + (wrap64 (1 + t112))))).bind fun t128 => (if (t128.size : Int) = 7 then ((beguinagelaw03_awake.f k3).bind fun t129 => (some t129)) else (some false))) else (some false))) else (some false)) = some r := by rw [if_pos rfl] at H; exact H
                        clear H
                        have H := H1
                        clear H1
                        by_cases c36 : t125 = 0
                        · rw [if_pos c36] at H
                          have c36b0 : (t125 == 0) = true := beq_iff_eq.mpr c36
                          have c36b1 : (t125 != 0) = false := bne_eq_false_iff_eq.mpr c36
                          clear c36
                          replace H := Option.bind_eq_some_iff.mp H
                          obtain ⟨t127, A370, H⟩ := H
                          replace H : (if t127.toList = ([] : List UInt8) then ((bin_Put.f k3 5 (wrap64 (7 + (wrap64 (1 + t112))))).bind fun t128 => (if (t128.size : Int) = 7 then ((beguinagelaw03_awake.f k3).bind fun t129 => (some t129)) else (some false))) else (some false)) = some r := H
                          have A37 := Aside0.mk A370
                          clear A370
                          by_cases c38 : t127.toList = ([] : List UInt8)
                          · rw [if_pos c38] at H
                            have c38b0 : (t127.toList == ([] : List UInt8)) = true := beq_iff_eq.mpr c38
                            have c38b1 : (t127.toList != ([] : List UInt8)) = false := bne_eq_false_iff_eq.mpr c38
                            clear c38
                            replace H := Option.bind_eq_some_iff.mp H
                            obtain ⟨t128, A390, H⟩ := H
                            replace H : (if (t128.size : Int) = 7 then ((beguinagelaw03_awake.f k3).bind fun t129 => (some t129)) else (some false)) = some r := H
                            have A39 := Aside0.mk A390
                            clear A390
                            by_cases c40 : (t128.size : Int) = 7
                            · rw [if_pos c40] at H
                              have c40b0 : ((t128.size : Int) == 7) = true := beq_iff_eq.mpr c40
                              have c40b1 : ((t128.size : Int) != 7) = false := bne_eq_false_iff_eq.mpr c40
                              clear c40
                              replace H := Option.bind_eq_some_iff.mp H
                              obtain ⟨t129, A410, H⟩ := H
                              replace H : (some t129) = some r := H
                              have A41 := Aside0.mk A410
                              clear A410
                              obtain rfl := Option.some.inj H
                              go_wp2_with (first | (go_at_call 7; (with_reducible refine (bin_Get.calls x6_1 (x6_1.size : Int) 1 t123 false _ A32.out).mono ?_); rintro e w42 ⟨rfl, hb⟩; have n0_ := Aside0.mk (Kd.R_below (by (with_reducible repeat (first | apply Kd.R_alloc | apply Kd.R_drewN | apply Kd.R_drew)); exact HO_7.out) hb); have n1_ := Aside0.mk (below_step (by repeat (first | (with_reducible first | exact HB.out | apply below_alloc | apply pw_below_drewN | apply below_drew1) | exact HB.out)) hb); clear HO_7; clear HB; have HO_7 := n0_; have HB := n1_; clear n0_ n1_; (try clear hb); (try clear hb2); (try clear hk); (try clear hi)) | (go_at_call 7; (with_reducible refine (bin_Get.calls x6_1 (x6_1.size : Int) 0 t125 true _ A33.out).mono ?_); rintro e w43 ⟨rfl, hb⟩; have n0_ := Aside0.mk (Kd.R_below (by (with_reducible repeat (first | apply Kd.R_alloc | apply Kd.R_drewN | apply Kd.R_drew)); exact HO_7.out) hb); have n1_ := Aside0.mk (below_step (by repeat (first | (with_reducible first | exact HB.out | apply below_alloc | apply pw_below_drewN | apply below_drew1) | exact HB.out)) hb); clear HO_7; clear HB; have HO_7 := n0_; have HB := n1_; clear n0_ n1_; (try clear hb); (try clear hb2); (try clear hk); (try clear hi)) | (go_at_call 6; (with_reducible refine (bin_Put.calls k3 5 (wrap64 (-(wrap64 (1 + t112)))) t127 _ A37.out).mono ?_); rintro e w44 ⟨rfl, hb⟩; have n0_ := Aside0.mk (Kd.R_below (by (with_reducible repeat (first | apply Kd.R_alloc | apply Kd.R_drewN | apply Kd.R_drew)); exact HO_7.out) hb); have n1_ := Aside0.mk (below_step (by repeat (first | (with_reducible first | exact HB.out | apply below_alloc | apply pw_below_drewN | apply below_drew1) | exact HB.out)) hb); clear HO_7; clear HB; have HO_7 := n0_; have HB := n1_; clear n0_ n1_; (try clear hb); (try clear hb2); (try clear hk); (try clear hi)) | (go_at_call 6; (with_reducible refine (bin_Put.calls k3 5 (wrap64 (7 + (wrap64 (1 + t112)))) t128 _ A39.out).mono ?_); rintro e w45 ⟨rfl, hb⟩; have n0_ := Aside0.mk (Kd.R_below (by (with_reducible repeat (first | apply Kd.R_alloc | apply Kd.R_drewN | apply Kd.R_drew)); exact HO_7.out) hb); have n1_ := Aside0.mk (below_step (by repeat (first | (with_reducible first | exact HB.out | apply below_alloc | apply pw_below_drewN | apply below_drew1) | exact HB.out)) hb); clear HO_7; clear HB; have HO_7 := n0_; have HB := n1_; clear n0_ n1_; (try clear hb); (try clear hb2); (try clear hk); (try clear hi)) | (go_at_call 8; (with_reducible refine (beguinagelaw03_awake.calls k3  t129 _ A41.out).mono ?_); rintro e w46 ⟨rfl, hb⟩; have n0_ := Aside0.mk (Kd.R_below (by (with_reducible repeat (first | apply Kd.R_alloc | apply Kd.R_drewN | apply Kd.R_drew)); exact HO_7.out) hb); have n1_ := Aside0.mk (below_step (by repeat (first | (with_reducible first | exact HB.out | apply below_alloc | apply pw_below_drewN | apply below_drew1) | exact HB.out)) hb); clear HO_7; clear HB; have HO_7 := n0_; have HB := n1_; clear n0_ n1_; (try clear hb); (try clear hb2); (try clear hk); (try clear hi)))
                              repeat (go_quiet (first | (go_at_call 7; (with_reducible refine (bin_Get.calls x6_1 (x6_1.size : Int) 1 t123 false _ A32.out).mono ?_); rintro e w42 ⟨rfl, hb⟩; have n0_ := Aside0.mk (Kd.R_below (by (with_reducible repeat (first | apply Kd.R_alloc | apply Kd.R_drewN | apply Kd.R_drew)); exact HO_7.out) hb); have n1_ := Aside0.mk (below_step (by repeat (first | (with_reducible first | exact HB.out | apply below_alloc | apply pw_below_drewN | apply below_drew1) | exact HB.out)) hb); clear HO_7; clear HB; have HO_7 := n0_; have HB := n1_; clear n0_ n1_; (try clear hb); (try clear hb2); (try clear hk); (try clear hi)) | (go_at_call 7; (with_reducible refine (bin_Get.calls x6_1 (x6_1.size : Int) 0 t125 true _ A33.out).mono ?_); rintro e w43 ⟨rfl, hb⟩; have n0_ := Aside0.mk (Kd.R_below (by (with_reducible repeat (first | apply Kd.R_alloc | apply Kd.R_drewN | apply Kd.R_drew)); exact HO_7.out) hb); have n1_ := Aside0.mk (below_step (by repeat (first | (with_reducible first | exact HB.out | apply below_alloc | apply pw_below_drewN | apply below_drew1) | exact HB.out)) hb); clear HO_7; clear HB; have HO_7 := n0_; have HB := n1_; clear n0_ n1_; (try clear hb); (try clear hb2); (try clear hk); (try clear hi)) | (go_at_call 6; (with_reducible refine (bin_Put.calls k3 5 (wrap64 (-(wrap64 (1 + t112)))) t127 _ A37.out).mono ?_); rintro e w44 ⟨rfl, hb⟩; have n0_ := Aside0.mk (Kd.R_below (by (with_reducible repeat (first | apply Kd.R_alloc | apply Kd.R_drewN | apply Kd.R_drew)); exact HO_7.out) hb); have n1_ := Aside0.mk (below_step (by repeat (first | (with_reducible first | exact HB.out | apply below_alloc | apply pw_below_drewN | apply below_drew1) | exact HB.out)) hb); clear HO_7; clear HB; have HO_7 := n0_; have HB := n1_; clear n0_ n1_; (try clear hb); (try clear hb2); (try clear hk); (try clear hi)) | (go_at_call 6; (with_reducible refine (bin_Put.calls k3 5 (wrap64 (7 + (wrap64 (1 + t112)))) t128 _ A39.out).mono ?_); rintro e w45 ⟨rfl, hb⟩; have n0_ := Aside0.mk (Kd.R_below (by (with_reducible repeat (first | apply Kd.R_alloc | apply Kd.R_drewN | apply Kd.R_drew)); exact HO_7.out) hb); have n1_ := Aside0.mk (below_step (by repeat (first | (with_reducible first | exact HB.out | apply below_alloc | apply pw_below_drewN | apply below_drew1) | exact HB.out)) hb); clear HO_7; clear HB; have HO_7 := n0_; have HB := n1_; clear n0_ n1_; (try clear hb); (try clear hb2); (try clear hk); (try clear hi)) | (go_at_call 8; (with_reducible refine (beguinagelaw03_awake.calls k3  t129 _ A41.out).mono ?_); rintro e w46 ⟨rfl, hb⟩; have n0_ := Aside0.mk (Kd.R_below (by (with_reducible repeat (first | apply Kd.R_alloc | apply Kd.R_drewN | apply Kd.R_drew)); exact HO_7.out) hb); have n1_ := Aside0.mk (below_step (by repeat (first | (with_reducible first | exact HB.out | apply below_alloc | apply pw_below_drewN | apply below_drew1) | exact HB.out)) hb); clear HO_7; clear HB; have HO_7 := n0_; have HB := n1_; clear n0_ n1_; (try clear hb); (try clear hb2); (try clear hk); (try clear hi))); try go_wp2_with (first | (go_at_call 7; (with_reducible refine (bin_Get.calls x6_1 (x6_1.size : Int) 1 t123 false _ A32.out).mono ?_); rintro e w42 ⟨rfl, hb⟩; have n0_ := Aside0.mk (Kd.R_below (by (with_reducible repeat (first | apply Kd.R_alloc | apply Kd.R_drewN | apply Kd.R_drew)); exact HO_7.out) hb); have n1_ := Aside0.mk (below_step (by repeat (first | (with_reducible first | exact HB.out | apply below_alloc | apply pw_below_drewN | apply below_drew1) | exact HB.out)) hb); clear HO_7; clear HB; have HO_7 := n0_; have HB := n1_; clear n0_ n1_; (try clear hb); (try clear hb2); (try clear hk); (try clear hi)) | (go_at_call 7; (with_reducible refine (bin_Get.calls x6_1 (x6_1.size : Int) 0 t125 true _ A33.out).mono ?_); rintro e w43 ⟨rfl, hb⟩; have n0_ := Aside0.mk (Kd.R_below (by (with_reducible repeat (first | apply Kd.R_alloc | apply Kd.R_drewN | apply Kd.R_drew)); exact HO_7.out) hb); have n1_ := Aside0.mk (below_step (by repeat (first | (with_reducible first | exact HB.out | apply below_alloc | apply pw_below_drewN | apply below_drew1) | exact HB.out)) hb); clear HO_7; clear HB; have HO_7 := n0_; have HB := n1_; clear n0_ n1_; (try clear hb); (try clear hb2); (try clear hk); (try clear hi)) | (go_at_call 6; (with_reducible refine (bin_Put.calls k3 5 (wrap64 (-(wrap64 (1 + t112)))) t127 _ A37.out).mono ?_); rintro e w44 ⟨rfl, hb⟩; have n0_ := Aside0.mk (Kd.R_below (by (with_reducible repeat (first | apply Kd.R_alloc | apply Kd.R_drewN | apply Kd.R_drew)); exact HO_7.out) hb); have n1_ := Aside0.mk (below_step (by repeat (first | (with_reducible first | exact HB.out | apply below_alloc | apply pw_below_drewN | apply below_drew1) | exact HB.out)) hb); clear HO_7; clear HB; have HO_7 := n0_; have HB := n1_; clear n0_ n1_; (try clear hb); (try clear hb2); (try clear hk); (try clear hi)) | (go_at_call 6; (with_reducible refine (bin_Put.calls k3 5 (wrap64 (7 + (wrap64 (1 + t112)))) t128 _ A39.out).mono ?_); rintro e w45 ⟨rfl, hb⟩; have n0_ := Aside0.mk (Kd.R_below (by (with_reducible repeat (first | apply Kd.R_alloc | apply Kd.R_drewN | apply Kd.R_drew)); exact HO_7.out) hb); have n1_ := Aside0.mk (below_step (by repeat (first | (with_reducible first | exact HB.out | apply below_alloc | apply pw_below_drewN | apply below_drew1) | exact HB.out)) hb); clear HO_7; clear HB; have HO_7 := n0_; have HB := n1_; clear n0_ n1_; (try clear hb); (try clear hb2); (try clear hk); (try clear hi)) | (go_at_call 8; (with_reducible refine (beguinagelaw03_awake.calls k3  t129 _ A41.out).mono ?_); rintro e w46 ⟨rfl, hb⟩; have n0_ := Aside0.mk (Kd.R_below (by (with_reducible repeat (first | apply Kd.R_alloc | apply Kd.R_drewN | apply Kd.R_drew)); exact HO_7.out) hb); have n1_ := Aside0.mk (below_step (by repeat (first | (with_reducible first | exact HB.out | apply below_alloc | apply pw_below_drewN | apply below_drew1) | exact HB.out)) hb); clear HO_7; clear HB; have HO_7 := n0_; have HB := n1_; clear n0_ n1_; (try clear hb); (try clear hb2); (try clear hk); (try clear hi))))
                              go_ret
                              exact ⟨by first | rfl | (simp [errW_none, errW_some] <;> rfl) | (simp [*, errW_none, errW_some] <;> rfl), by repeat (first | (with_reducible first | exact HB.out | apply below_alloc | apply pw_below_drewN | apply below_drew1) | exact HB.out)⟩
                            · rw [if_neg c40] at H
                              have c40b0 : ((t128.size : Int) == 7) = false := beq_eq_false_iff_ne.mpr c40
                              have c40b1 : ((t128.size : Int) != 7) = true := bne_iff_ne.mpr c40
                              obtain rfl := Option.some.inj H
                              exact absurd hr_.out (by simp)
                          · rw [if_neg c38] at H
                            have c38b0 : (t127.toList == ([] : List UInt8)) = false := beq_eq_false_iff_ne.mpr c38
                            have c38b1 : (t127.toList != ([] : List UInt8)) = true := bne_iff_ne.mpr c38
                            obtain rfl := Option.some.inj H
                            exact absurd hr_.out (by simp)
                        · rw [if_neg c36] at H
                          have c36b0 : (t125 == 0) = false := beq_eq_false_iff_ne.mpr c36
                          have c36b1 : (t125 != 0) = true := bne_iff_ne.mpr c36
                          obtain rfl := Option.some.inj H
                          exact absurd hr_.out (by simp)
                      · replace c35 := Bool.eq_false_iff.mpr c35
                        subst c35
                        have H1 : (some false) = some r := by rw [if_neg (show ¬ (false = true) by decide)] at H; exact H
                        clear H
                        have H := H1
                        clear H1
                        obtain rfl := Option.some.inj H
                        exact absurd hr_.out (by simp)
            · rw [if_neg c19] at H
              have c19b0 : ((x6_1.size : Int) == (wrap64 ((wrap64 (1 + t112)) * (x7_1.length : Int)))) = false := beq_eq_false_iff_ne.mpr c19
              have c19b1 : ((x6_1.size : Int) != (wrap64 ((wrap64 (1 + t112)) * (x7_1.length : Int)))) = true := bne_iff_ne.mpr c19
              obtain rfl := Option.some.inj H
              exact absurd hr_.out (by simp)

/-- THE ONE PURE STATEMENT of beguinagelaw03_BinOrder: yours. -/
def beguinagelaw03_BinOrder.Pure : Prop := ∀ (l0 : List Int) (a1 : Int), l0.length ≤ maxLen → l0.length * 8 ≤ 140737488351232 → (∀ x ∈ l0, (Lit.int .i64 x).wf = true) → (Lit.int .i64 a1).wf = true → ∃ k, beguinagelaw03_BinOrder.f k l0 a1 = some true
theorem beguinagelaw03_BinOrder.walk (P : beguinagelaw03_BinOrder.Pure) (a0 : Option Addr) (len0 cap0 : Nat) (z0 : List Int) (a1 : Int) (w : World) (w0 : (a0 = none ∧ len0 = 0 ∧ cap0 = 0 ∧ z0 = []) ∨ ∃ x, a0 = some x ∧ len0 ≤ cap0 ∧ cap0 ≤ maxLen ∧ z0.length = cap0 ∧ (∀ i, i < z0.length → w.cell? (x.add i) = some (.int .i64 (z0.getD i 0))) ∧ ∀ n ∈ z0, (Lit.int .i64 n).wf = true) (y0 : len0 * 8 ≤ 140737488351232) (w1 : (Lit.int .i64 a1).wf = true) :
    Calls Try.prog 3 #[.slice a0 len0 cap0, .int .i64 a1] w fun e w' => e = .returned (.bool true) ∧ Below w.heap.size w w' := by
  obtain ⟨l0, rfl, hr0, hm0, hw0, hc0⟩ := ReadsInt.ofRowC w0
  obtain ⟨k, h⟩ := P l0 a1 hm0 y0 hw0 w1
  refine (beguinagelaw03_BinOrder.calls k _ _ l0 a1 true w (Kd.C_of_reads (d := (0 : Int)) (h1 := fun _ => rfl) hr0) hc0 h ⟨rfl⟩).mono ?_
  rintro e w' ⟨rfl, hd⟩
  exact ⟨rfl, hd⟩

end Go.Proofs.Ytelbandiainkgaa.PBin
