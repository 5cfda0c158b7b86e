-- Written by wip/pr.py, a program of this session's own that drives the kit's printer: not a text of print.sh.
import Derived.Test.YtmjkkkllmpagpaaPUsagex0
import Derived.Test.YtmjkkkllmpagpaaPUsagex3
import Derived.Test.YtmjkkkllmpagpaaPUsagex4
import Derived.Test.YtmjkkkllmpagpaaPUsagex5
import Derived.Test.YtmjkkkllmpagpaaPUsagex7
import Derived.Test.YtmjkkkllmpagpaaPUsagex8
namespace Go.Proofs.Ytmjkkkllmpagpaa.PUsage
open Go.RowKit Go.Proofs.YtmjkkkllmpagpaaW.PrintWords Go.Proofs.YtmjkkkllmpagpaaW.PrintLast Go.Proofs.YtmjkkkllmpagpaaW.PrintMore
attribute [local go_sem] max2_int min2_int max_two min_two max_three min_three max_four min_four   -- for this text's walks alone
set_option linter.unusedVariables false
set_option linter.unusedSimpArgs false

/-! ### beguinagelaw19_UsageAll: function 5 -/
mutual
def beguinagelaw19_UsageAll.l0 : Nat → Int → List (S36) → List (S37) → Int → Option (Bool)
  | 0, _, _, _, _ => none
  | k + 1, x0, x1, x5, x6 => if x6 < (x1.length : Int) then (if 0 ≤ x6 then (if x5.length < 5864062014805 then (beguinagelaw19_UsageAll.l0 k x0 x1 (x5 ++ [(⟨(rd_T36 x1 x6).f0, (rd_T36 x1 x6).f1, (rd_T36 x1 x6).f2⟩ : S37)]) (wrap64 (x6 + 1))) else (none)) else (none)) else (beguinagelaw19_UsageAll.l1 k x0 x1 x5 1)
def beguinagelaw19_UsageAll.l1 : Nat → Int → List (S36) → List (S37) → Int → Option (Bool)
  | 0, _, _, _, _ => none
  | k + 1, x0, x1, x5, x7 => if x7 < (x1.length : Int) then (if 0 ≤ (wrap64 (x7 - 1)) then (if (wrap64 (x7 - 1)) < (x1.length : Int) then (if 0 ≤ x7 then ((usage_Better.f x0 ((rd_T36 x1 (wrap64 (x7 - 1))).f0) ((rd_T36 x1 (wrap64 (x7 - 1))).f1) ((rd_T36 x1 (wrap64 (x7 - 1))).f2) ((rd_T36 x1 x7).f0) ((rd_T36 x1 x7).f1) ((rd_T36 x1 x7).f2)).bind fun t153 => (if (wrap64 (x7 - 1)) < (x5.length : Int) then (if x7 < (x5.length : Int) then ((beguinageref19_Better.f x0 ((rd_T37 x5 (wrap64 (x7 - 1))).f0) ((rd_T37 x5 (wrap64 (x7 - 1))).f1) ((rd_T37 x5 (wrap64 (x7 - 1))).f2) ((rd_T37 x5 x7).f0) ((rd_T37 x5 x7).f1) ((rd_T37 x5 x7).f2)).bind fun t156 => (if (t153 != t156) = true then (some false) else (beguinagelaw19_UsageAll.l1 k x0 x1 x5 (wrap64 (x7 + 1))))) else (none)) else (none))) else (none)) else (none)) else (none)) else (if ([] : List (S36)).length + x1.length < 5864062014805 then ((usage_Pick.f k x0 (([] : List (S36)) ++ x1)).bind fun bt146 => ((beguinageref19_Pick.f k x0 x5).bind fun bt148 => (if bt146.1 = bt148.1 then (if (bt146.2 == bt148.2) = true then ((beguinagelaw19_awake.f k).bind fun t150 => (some t150)) else (some false)) else (some false)))) else (none))
end
def beguinagelaw19_UsageAll.f (k : Nat) (a0 : Int) (l1 : List (S36)) : Option (Bool) := if (l1.length : Int) > 60 then ((beguinagelaw19_awake.f k).bind fun t136 => (some t136)) else (beguinagelaw19_UsageAll.l0 k a0 l1 ([] : List (S37)) 0)
theorem beguinagelaw19_UsageAll.mono_l : ∀ k, (∀ y0 y1 y2 y3, LeO (beguinagelaw19_UsageAll.l0 k y0 y1 y2 y3) (beguinagelaw19_UsageAll.l0 (k + 1) y0 y1 y2 y3)) ∧ (∀ y0 y1 y2 y3, LeO (beguinagelaw19_UsageAll.l1 k y0 y1 y2 y3) (beguinagelaw19_UsageAll.l1 (k + 1) y0 y1 y2 y3))
  | 0 => ⟨fun _ _ _ _ r h => by simp [beguinagelaw19_UsageAll.l0] at h, fun _ _ _ _ r h => by simp [beguinagelaw19_UsageAll.l1] at h⟩
  | k + 1 => by
    obtain ⟨ih0, ih1⟩ := beguinagelaw19_UsageAll.mono_l k
    refine ⟨?_, ?_⟩
    · intro y0 y1 y2 y3
      unfold beguinagelaw19_UsageAll.l0
      repeat' first
      | (with_reducible exact ih0 _ _ _ _)
      | (with_reducible exact ih1 _ _ _ _)
      | (with_reducible exact beguinagelaw19_awake.mono _)
      | (with_reducible exact beguinageref19_Pick.mono _ _ _)
      | (with_reducible exact usage_Pick.mono _ _ _)
      | (with_reducible exact LeO.refl _)
      | (with_reducible exact LeO.none _)
      | (with_reducible refine LeO.ite ?_ ?_)
      | (with_reducible refine LeO.bind ?_ (fun _ => ?_))
      | exact ih0 _ _ _ _
      | exact ih1 _ _ _ _
      | exact beguinagelaw19_awake.mono _
      | exact beguinageref19_Pick.mono _ _ _
      | exact usage_Pick.mono _ _ _
      | exact LeO.none _
      | refine LeO.ite ?_ ?_
      | refine LeO.bind ?_ (fun _ => ?_)
    · intro y0 y1 y2 y3
      unfold beguinagelaw19_UsageAll.l1
      repeat' first
      | (with_reducible exact ih0 _ _ _ _)
      | (with_reducible exact ih1 _ _ _ _)
      | (with_reducible exact beguinagelaw19_awake.mono _)
      | (with_reducible exact beguinageref19_Pick.mono _ _ _)
      | (with_reducible exact usage_Pick.mono _ _ _)
      | (with_reducible exact LeO.refl _)
      | (with_reducible exact LeO.none _)
      | (with_reducible refine LeO.ite ?_ ?_)
      | (with_reducible refine LeO.bind ?_ (fun _ => ?_))
      | exact ih0 _ _ _ _
      | exact ih1 _ _ _ _
      | exact beguinagelaw19_awake.mono _
      | exact beguinageref19_Pick.mono _ _ _
      | exact usage_Pick.mono _ _ _
      | exact LeO.none _
      | refine LeO.ite ?_ ?_
      | refine LeO.bind ?_ (fun _ => ?_)
theorem beguinagelaw19_UsageAll.mono : ∀ a0 a1 k, LeO (beguinagelaw19_UsageAll.f k a0 a1) (beguinagelaw19_UsageAll.f (k + 1) a0 a1) := by
  intro a0 a1 k
  obtain ⟨ih0, ih1⟩ := beguinagelaw19_UsageAll.mono_l k
  unfold beguinagelaw19_UsageAll.f
  repeat' first
      | (with_reducible exact ih0 _ _ _ _)
      | (with_reducible exact ih1 _ _ _ _)
      | (with_reducible exact beguinagelaw19_awake.mono _)
      | (with_reducible exact beguinageref19_Pick.mono _ _ _)
      | (with_reducible exact usage_Pick.mono _ _ _)
      | (with_reducible exact LeO.refl _)
      | (with_reducible exact LeO.none _)
      | (with_reducible refine LeO.ite ?_ ?_)
      | (with_reducible refine LeO.bind ?_ (fun _ => ?_))
      | exact ih0 _ _ _ _
      | exact ih1 _ _ _ _
      | exact beguinagelaw19_awake.mono _
      | exact beguinageref19_Pick.mono _ _ _
      | exact usage_Pick.mono _ _ _
      | exact LeO.none _
      | refine LeO.ite ?_ ?_
      | refine LeO.bind ?_ (fun _ => ?_)
def beguinagelaw19_UsageAll.T7 : Bool × List (List Nat × List Nat) := (true, [([], []), ([], []), ([], []), ([1, 2], [1, 2]), ([3], [3]), ([4], [4]), ([], []), ([], []), ([6, 7], [6, 7]), ([8], [8]), ([9], [9]), ([], []), ([], []), ([11, 12], [11, 12]), ([13], [13]), ([14], [14]), ([5, 10, 15], [5, 10, 15]), ([16], [16]), ([0, 17], [0, 17]), ([18, 18, 0, 1, 2, 3, 4, 5, 6, 7, 8, 9, 10, 11, 12, 13, 14, 15, 16, 17, 18], [0, 18])])
def beguinagelaw19_UsageAll.B7 : List Nat := [0, 0, 0, 6, 14, 30, 0, 0, 192, 448, 960, 0, 0, 6144, 14336, 30720, 65534, 131070, 262143, 524287]
theorem beguinagelaw19_UsageAll.tab7 : rtab .any (opsOf Try.f5 7) = beguinagelaw19_UsageAll.T7 := by kernel_rfl
theorem beguinagelaw19_UsageAll.bits7 : waitsOk beguinagelaw19_UsageAll.T7.2 beguinagelaw19_UsageAll.B7 = true := by kernel_rfl
def beguinagelaw19_UsageAll.T11 : Bool × List (List Nat × List Nat) := (true, [([], []), ([], []), ([], []), ([2], [2]), ([1, 3], [1, 3]), ([4], [4]), ([], []), ([], []), ([6, 7], [6, 7]), ([8], [8]), ([0, 5, 9], [0, 5, 9]), ([], []), ([], []), ([], []), ([13], [13]), ([12, 14], [12, 14]), ([15], [15]), ([], []), ([], []), ([17, 18], [17, 18]), ([19], [19]), ([11, 16, 20, 10], [11, 16, 20]), ([10, 21], [10, 21])])
def beguinagelaw19_UsageAll.B11 : List Nat := [0, 0, 0, 4, 14, 30, 0, 0, 192, 448, 1023, 0, 0, 0, 8192, 28672, 61440, 0, 0, 393216, 917504, 2097151, 4194303]
theorem beguinagelaw19_UsageAll.tab11 : rtab .any (opsOf Try.f5 11) = beguinagelaw19_UsageAll.T11 := by kernel_rfl
theorem beguinagelaw19_UsageAll.bits11 : waitsOk beguinagelaw19_UsageAll.T11.2 beguinagelaw19_UsageAll.B11 = true := by kernel_rfl
set_option maxHeartbeats 8000000 in
set_option maxRecDepth 100000 in
theorem beguinagelaw19_UsageAll.calls (k : Nat) (a0 : Int) (A1 : Option Addr) (c1 : Nat) (l1 : List (S36)) (r : Bool) (w : World) (hr1 : Kd.C k36 w A1 l1.length l1) (hc1 : l1.length ≤ c1) (h : beguinagelaw19_UsageAll.f k a0 l1 = some r) (hr_ : Aside0 (r = true)) :
    Calls Try.prog 5 #[.int .i64 a0, .slice A1 l1.length c1] w fun e w' => e = .returned (.bool r) ∧ Below w.heap.size w w' := by
  have hu37 := Try.underlying37
  have hu36 := Try.underlying36
  have HR1 := Aside0.mk hr1
  have HC1 := Aside0.mk hc1
  clear hr1 hc1
  have HB := Aside0.mk (Below.refl w.heap.size w)
  have H : (if (l1.length : Int) > 60 then ((beguinagelaw19_awake.f k).bind fun t136 => (some t136)) else (beguinagelaw19_UsageAll.l0 k a0 l1 ([] : List (S37)) 0)) = some r := h
  clear h
  by_cases c3 : (l1.length : Int) > 60
  · rw [if_pos c3] at H
    have c3b0 : decide (60 < (l1.length : Int)) = true := decide_eq_true c3
    have c3b1 : decide (60 < l1.length) = true := decide_eq_true (by omega)
    clear c3
    replace H := Option.bind_eq_some_iff.mp H
    obtain ⟨t136, A40, H⟩ := H
    replace H : (some t136) = some r := H
    have A4 := Aside0.mk A40
    clear A40
    obtain rfl := Option.some.inj H
    go_enter Try.func5, Try.ntmps5
    go_wp2_with (first | ((with_reducible refine gate_callee (f := 20) rfl ?_); refine goesL_ (some 15) rfl rfl Try.func20 (by kernel_rfl) rfl #[] rfl (by (try simp only [List.map_toArray, List.map_cons, List.map_nil]); first | done | rfl | (simp only [List.length_drop, List.length_take]; rfl)) ?_; (with_reducible refine (beguinagelaw19_awake.calls k  t136 _ A4.out).mono ?_); rintro e w5 ⟨rfl, hb⟩; refine ⟨_, rfl, ?_⟩; have n0_ := Aside0.mk (below_step (by repeat (first | (with_reducible first | exact HB.out | apply below_alloc | apply pw_below_drewN | apply below_drew1) | exact HB.out)) hb); clear HB; have HB := n0_; clear n0_; (try clear hb); (try clear hb2); (try clear hk); (try clear hi)))
    go_ret
    exact ⟨by first | rfl | (simp [errW_none, errW_some] <;> rfl) | (simp [*, errW_none, errW_some] <;> rfl), by repeat (first | (with_reducible first | exact HB.out | apply below_alloc | apply pw_below_drewN | apply below_drew1) | exact HB.out)⟩
  · rw [if_neg c3] at H
    have c3b0 : decide (60 < (l1.length : Int)) = false := decide_eq_false c3
    have c3b1 : decide (60 < l1.length) = false := decide_eq_false (by omega)
    clear c3
    have H' := Aside0.mk H
    clear H
    go_enter Try.func5, Try.ntmps5
    go_wp2
    go_loopg [5, 6] k (fun kq v5 v6 w' => ∃ (x5_1 : List (S37)) (x6_1 : Int), v6 = .int .i64 x6_1 ∧ Aside0 (beguinagelaw19_UsageAll.l0 kq a0 l1 x5_1 x6_1 = some r) ∧ Aside0 (kq ≤ k) ∧ Aside0 (Kd.R k37 37 w' w.heap.size (fun _ => True) v5 x5_1) ∧ Aside0 (Below w.heap.size w w'))
    case atStart => exact ⟨(([] : List (S37))), (0), (by first | rfl | (simp; done) | (simp [*]; done)), H', ⟨Nat.le_refl _⟩, ⟨by first | exact Kd.R_nil _ _ _ _ _ | exact Kd.N_nil _ _ _ _ _ | exact Kd.V_nil _ _ _ _ _ | exact Kd.Q_nil _ _ _ _ _ | exact Kd.S_nil _ _ _ _ _⟩, ⟨by repeat (first | (with_reducible first | exact HB.out | apply below_alloc | apply pw_below_drewN | apply below_drew1) | exact HB.out)⟩⟩
    case round =>
      clear H'
      try clear c1
      try clear c2
      try clear p2
      try clear c3
      try clear c3b0
      try clear c3b1
      try clear c5
      obtain ⟨x5_1, x6_1, rfl, HA, HK1, HO_5, HB⟩ := hrel
      cases gk with
      | zero => exact absurd HA.out (by simp [beguinagelaw19_UsageAll.l0])
      | succ k1 =>
        have H := HA.out
        clear HA
        simp only [beguinagelaw19_UsageAll.l0] at H
        by_cases c6 : x6_1 < (l1.length : Int)
        · rw [if_pos c6] at H
          have c6b0 : decide (x6_1 < (l1.length : Int)) = true := decide_eq_true c6
          clear c6
          by_cases c7 : 0 ≤ x6_1
          · rw [if_pos c7] at H
            have c7b0 : decide (0 ≤ x6_1) = true := decide_eq_true c7
            clear c7
            by_cases c8 : x5_1.length < 5864062014805
            · rw [if_pos c8] at H
              have LMc8 := Aside0.mk c8
              clear c8
              obtain ⟨y140, hy140⟩ : ∃ y_ : List (S37), y_ = (x5_1 ++ [(⟨(rd_T36 l1 x6_1).f0, (rd_T36 l1 x6_1).f1, (rd_T36 l1 x6_1).f2⟩ : S37)]) := ⟨_, rfl⟩
              replace H : (beguinagelaw19_UsageAll.l0 k1 a0 l1 y140 (wrap64 (x6_1 + 1))) = some r := by first | (rw [hy140]; with_reducible exact H) | (have H2_ := (Option.bind_some _ _).symm.trans H; rw [hy140]; with_reducible exact H2_) | (have H2_ := (Option.bind_some _ _).symm.trans H; with_reducible exact H2_) | with_reducible exact H | (rw [hy140]; exact H) | exact H
              have Ny140 := Aside0.mk hy140
              clear hy140
              have H' := Aside0.mk H
              clear H
              try go_wp2
              have n0_ := Aside0.mk (Kd.R_drew HO_5.out)
              have n1_ := Aside0.mk (below_drew1 HB.out)
              clear HO_5
              clear HB
              have HO_5 := n0_
              have HB := n1_
              clear n0_ n1_
              have p137 : 0 ≤ (x6_1 : Int) := of_decide_eq_true (by first | (with_reducible assumption) | assumption)
              have q137 : x6_1 < (l1.length : Int) := of_decide_eq_true (by first | (with_reducible assumption) | assumption)
              obtain ⟨ad137, e137, hx137_0, hx137_1, hx137_2⟩ := at_T36 HR1.out x6_1 p137 q137
              have hw137_2 := hx137_2
              have hw137_1 := hx137_1
              have hw137_0 := hx137_0
              cases e137
              replace hx137_0 := (HB.out.cell (World.block_lt_of_cell? w _ hx137_0)).trans hx137_0
              replace hx137_1 := (HB.out.cell (World.block_lt_of_cell? w _ hx137_1)).trans hx137_1
              replace hx137_2 := (HB.out.cell (World.block_lt_of_cell? w _ hx137_2)).trans hx137_2
              replace p137 := eq_true p137
              replace q137 := eq_true q137
              have p138 : 0 ≤ (x6_1 : Int) := of_decide_eq_true (by first | (with_reducible assumption) | assumption)
              have q138 : x6_1 < (l1.length : Int) := of_decide_eq_true (by first | (with_reducible assumption) | assumption)
              obtain ⟨ad138, e138, hx138_0, hx138_1, hx138_2⟩ := at_T36 HR1.out x6_1 p138 q138
              have hw138_2 := hx138_2
              have hw138_1 := hx138_1
              have hw138_0 := hx138_0
              obtain rfl : ad137 = ad138 := (by injection e138)
              replace hx138_0 := (HB.out.cell (World.block_lt_of_cell? w _ hx138_0)).trans hx138_0
              replace hx138_1 := (HB.out.cell (World.block_lt_of_cell? w _ hx138_1)).trans hx138_1
              replace hx138_2 := (HB.out.cell (World.block_lt_of_cell? w _ hx138_2)).trans hx138_2
              replace p138 := eq_true p138
              replace q138 := eq_true q138
              have p139 : 0 ≤ (x6_1 : Int) := of_decide_eq_true (by first | (with_reducible assumption) | assumption)
              have q139 : x6_1 < (l1.length : Int) := of_decide_eq_true (by first | (with_reducible assumption) | assumption)
              obtain ⟨ad139, e139, hx139_0, hx139_1, hx139_2⟩ := at_T36 HR1.out x6_1 p139 q139
              have hw139_2 := hx139_2
              have hw139_1 := hx139_1
              have hw139_0 := hx139_0
              obtain rfl : ad137 = ad139 := (by injection e139)
              replace hx139_0 := (HB.out.cell (World.block_lt_of_cell? w _ hx139_0)).trans hx139_0
              replace hx139_1 := (HB.out.cell (World.block_lt_of_cell? w _ hx139_1)).trans hx139_1
              replace hx139_2 := (HB.out.cell (World.block_lt_of_cell? w _ hx139_2)).trans hx139_2
              replace p139 := eq_true p139
              replace q139 := eq_true q139
              refine start_ (n := 20) (S := fun w' => w'.cell? (ad137.add ((x6_1).toNat * 3)) = some (.int .i64 ((rd_T36 l1 x6_1).f0)) ∧ w'.cell? ⟨(ad137.add ((x6_1).toNat * 3)).block, (ad137.add ((x6_1).toNat * 3)).off + 1, none⟩ = some (.int .i64 ((rd_T36 l1 x6_1).f1)) ∧ w'.cell? ⟨(ad137.add ((x6_1).toNat * 3)).block, (ad137.add ((x6_1).toNat * 3)).off + 2, none⟩ = some (.bool ((rd_T36 l1 x6_1).f2)) ∧ w'.cell? (ad137.add ((x6_1).toNat * 3)) = some (.int .i64 ((rd_T36 l1 x6_1).f0)) ∧ w'.cell? ⟨(ad137.add ((x6_1).toNat * 3)).block, (ad137.add ((x6_1).toNat * 3)).off + 1, none⟩ = some (.int .i64 ((rd_T36 l1 x6_1).f1)) ∧ w'.cell? ⟨(ad137.add ((x6_1).toNat * 3)).block, (ad137.add ((x6_1).toNat * 3)).off + 2, none⟩ = some (.bool ((rd_T36 l1 x6_1).f2)) ∧ w'.cell? (ad137.add ((x6_1).toNat * 3)) = some (.int .i64 ((rd_T36 l1 x6_1).f0)) ∧ w'.cell? ⟨(ad137.add ((x6_1).toNat * 3)).block, (ad137.add ((x6_1).toNat * 3)).off + 1, none⟩ = some (.int .i64 ((rd_T36 l1 x6_1).f1)) ∧ w'.cell? ⟨(ad137.add ((x6_1).toNat * 3)).block, (ad137.add ((x6_1).toNat * 3)).off + 2, none⟩ = some (.bool ((rd_T36 l1 x6_1).f2))) (ds := []) #[false, false, false, false, false, false, false, false, false, false, false, false, false, false, false, false, false, false, false, false] (by kernel_rfl) rfl rfl ⟨((HB.out.cell (World.block_lt_of_cell? w _ hw137_0)).trans hw137_0), ((HB.out.cell (World.block_lt_of_cell? w _ hw137_1)).trans hw137_1), ((HB.out.cell (World.block_lt_of_cell? w _ hw137_2)).trans hw137_2), ((HB.out.cell (World.block_lt_of_cell? w _ hw138_0)).trans hw138_0), ((HB.out.cell (World.block_lt_of_cell? w _ hw138_1)).trans hw138_1), ((HB.out.cell (World.block_lt_of_cell? w _ hw138_2)).trans hw138_2), ((HB.out.cell (World.block_lt_of_cell? w _ hw139_0)).trans hw139_0), ((HB.out.cell (World.block_lt_of_cell? w _ hw139_1)).trans hw139_1), ((HB.out.cell (World.block_lt_of_cell? w _ hw139_2)).trans hw139_2)⟩ (fun hHeld => ?_); refine with_tabW beguinagelaw19_UsageAll.tab7 beguinagelaw19_UsageAll.bits7 (fun HT_ HW_ => ?_)
              generalize wr.drew = w9 at HO_5 HB hx137_0 hx137_1 hx137_2 hx138_0 hx138_1 hx138_2 hx139_0 hx139_1 hx139_2 hHeld ⊢
              refine pure_ (i := 0) (N := some 22) (v := ?_) (a' := ?_) #[true, false, false, false, false, false, false, false, false, false, false, false, false, false, false, false, false, false, false, false] rfl rfl (any_of HT_.out (by kernel_rfl)) (fun _ _ _ h => h) (Or.inl ⟨by rfl, ?_⟩) ?_ ?_
              rotate_left
              · intro w'
                go_simp
                with_reducible rfl
              rotate_left
              · simp only [Act.put, List.setIfInBounds_toArray, List.set_cons_zero, List.set_cons_succ, i64_w, i32_w]
                rfl
              refine pure_ (i := 1) (N := some 23) (v := ?_) (a' := ?_) #[true, true, false, false, false, false, false, false, false, false, false, false, false, false, false, false, false, false, false, false] rfl rfl (any_of HT_.out (by kernel_rfl)) (fun _ _ _ h => h) (Or.inl ⟨by rfl, ?_⟩) ?_ ?_
              rotate_left
              · intro w'
                go_simp
                with_reducible rfl
              rotate_left
              · simp only [Act.put, List.setIfInBounds_toArray, List.set_cons_zero, List.set_cons_succ, i64_w, i32_w]
                rfl
              refine pure_ (i := 2) (N := some 24) (v := ?_) (a' := ?_) #[true, true, true, false, false, false, false, false, false, false, false, false, false, false, false, false, false, false, false, false] rfl rfl (any_of HT_.out (by kernel_rfl)) (fun _ _ _ h => h) (Or.inl ⟨by rfl, ?_⟩) ?_ ?_
              rotate_left
              · intro w'
                go_simp
                with_reducible rfl
              rotate_left
              · simp only [Act.put, List.setIfInBounds_toArray, List.set_cons_zero, List.set_cons_succ, i64_w, i32_w]
                rfl
              refine pure_ (i := 3) (N := some 25) (v := ?_) (a' := ?_) #[true, true, true, true, false, false, false, false, false, false, false, false, false, false, false, false, false, false, false, false] rfl rfl (any_of HT_.out (by kernel_rfl)) (fun _ _ _ h => h) (Or.inl ⟨by rfl, ?_⟩) ?_ ?_
              rotate_left
              · intro w'
                go_simp
                with_reducible rfl
              rotate_left
              · simp only [Act.put, List.setIfInBounds_toArray, List.set_cons_zero, List.set_cons_succ, i64_w, i32_w]
                rfl
              refine pure_ (i := 4) (N := some 26) (v := ?_) (a' := ?_) #[true, true, true, true, true, false, false, false, false, false, false, false, false, false, false, false, false, false, false, false] rfl rfl (any_of HT_.out (by kernel_rfl)) (fun _ _ _ h => h) (Or.inl ⟨by rfl, ?_⟩) ?_ ?_
              rotate_left
              · intro w'
                go_simp
                with_reducible rfl
              rotate_left
              · simp only [Act.put, List.setIfInBounds_toArray, List.set_cons_zero, List.set_cons_succ, i64_w, i32_w]
                rfl
              refine pure_ (i := 6) (N := some 28) (v := ?_) (a' := ?_) #[true, true, true, true, true, false, true, false, false, false, false, false, false, false, false, false, false, false, false, false] rfl rfl (any_of HT_.out (by kernel_rfl)) (fun _ _ _ h => h) (Or.inl ⟨by rfl, ?_⟩) ?_ ?_
              rotate_left
              · intro w'
                go_simp
                with_reducible rfl
              rotate_left
              · simp only [Act.put, List.setIfInBounds_toArray, List.set_cons_zero, List.set_cons_succ, i64_w, i32_w]
                rfl
              refine pure_ (i := 7) (N := some 29) (v := ?_) (a' := ?_) #[true, true, true, true, true, false, true, true, false, false, false, false, false, false, false, false, false, false, false, false] rfl rfl (any_of HT_.out (by kernel_rfl)) (fun _ _ _ h => h) (Or.inl ⟨by rfl, ?_⟩) ?_ ?_
              rotate_left
              · intro w'
                go_simp
                with_reducible rfl
              rotate_left
              · simp only [Act.put, List.setIfInBounds_toArray, List.set_cons_zero, List.set_cons_succ, i64_w, i32_w]
                rfl
              refine pure_ (i := 8) (N := some 30) (v := ?_) (a' := ?_) #[true, true, true, true, true, false, true, true, true, false, false, false, false, false, false, false, false, false, false, false] rfl rfl (any_of HT_.out (by kernel_rfl)) (fun _ _ _ h => h) (Or.inl ⟨by rfl, ?_⟩) ?_ ?_
              rotate_left
              · intro w'
                go_simp
                with_reducible rfl
              rotate_left
              · simp only [Act.put, List.setIfInBounds_toArray, List.set_cons_zero, List.set_cons_succ, i64_w, i32_w]
                rfl
              refine pure_ (i := 9) (N := some 31) (v := ?_) (a' := ?_) #[true, true, true, true, true, false, true, true, true, true, false, false, false, false, false, false, false, false, false, false] rfl rfl (any_of HT_.out (by kernel_rfl)) (fun _ _ _ h => h) (Or.inl ⟨by rfl, ?_⟩) ?_ ?_
              rotate_left
              · intro w'
                go_simp
                with_reducible rfl
              rotate_left
              · simp only [Act.put, List.setIfInBounds_toArray, List.set_cons_zero, List.set_cons_succ, i64_w, i32_w]
                rfl
              refine pure_ (i := 11) (N := some 33) (v := ?_) (a' := ?_) #[true, true, true, true, true, false, true, true, true, true, false, true, false, false, false, false, false, false, false, false] rfl rfl (any_of HT_.out (by kernel_rfl)) (fun _ _ _ h => h) (Or.inl ⟨by rfl, ?_⟩) ?_ ?_
              rotate_left
              · intro w'
                go_simp
                with_reducible rfl
              rotate_left
              · simp only [Act.put, List.setIfInBounds_toArray, List.set_cons_zero, List.set_cons_succ, i64_w, i32_w]
                rfl
              refine pure_ (i := 12) (N := some 34) (v := ?_) (a' := ?_) #[true, true, true, true, true, false, true, true, true, true, false, true, true, false, false, false, false, false, false, false] rfl rfl (any_of HT_.out (by kernel_rfl)) (fun _ _ _ h => h) (Or.inl ⟨by rfl, ?_⟩) ?_ ?_
              rotate_left
              · intro w'
                go_simp
                with_reducible rfl
              rotate_left
              · simp only [Act.put, List.setIfInBounds_toArray, List.set_cons_zero, List.set_cons_succ, i64_w, i32_w]
                rfl
              refine pure_ (i := 13) (N := some 35) (v := ?_) (a' := ?_) #[true, true, true, true, true, false, true, true, true, true, false, true, true, true, false, false, false, false, false, false] rfl rfl (any_of HT_.out (by kernel_rfl)) (fun _ _ _ h => h) (Or.inl ⟨by rfl, ?_⟩) ?_ ?_
              rotate_left
              · intro w'
                go_simp
                with_reducible rfl
              rotate_left
              · simp only [Act.put, List.setIfInBounds_toArray, List.set_cons_zero, List.set_cons_succ, i64_w, i32_w]
                rfl
              refine pure_ (i := 14) (N := some 36) (v := ?_) (a' := ?_) #[true, true, true, true, true, false, true, true, true, true, false, true, true, true, true, false, false, false, false, false] rfl rfl (any_of HT_.out (by kernel_rfl)) (fun _ _ _ h => h) (Or.inl ⟨by rfl, ?_⟩) ?_ ?_
              rotate_left
              · intro w'
                go_simp
                with_reducible rfl
              rotate_left
              · simp only [Act.put, List.setIfInBounds_toArray, List.set_cons_zero, List.set_cons_succ, i64_w, i32_w]
                rfl
              refine take_ (i := 5) (N := some 27) (v := ?_) (a' := ?_) #[true, true, true, true, true, true, true, true, true, true, false, true, true, true, true, false, false, false, false, false] rfl rfl (take_ofW HT_.out HW_.out (by kernel_rfl)) (fun _ _ _ h => h) (Or.inl ⟨by rfl, ?_⟩) hHeld ?_ ?_
              rotate_left
              · rintro w' ⟨s0, s1, s2, s3, s4, s5, s6, s7, s8⟩
                go_simp
                with_reducible rfl
              rotate_left
              · simp only [Act.put, List.setIfInBounds_toArray, List.set_cons_zero, List.set_cons_succ, i64_w, i32_w]
                rfl
              refine take_ (i := 10) (N := some 32) (v := ?_) (a' := ?_) #[true, true, true, true, true, true, true, true, true, true, true, true, true, true, true, false, false, false, false, false] rfl rfl (take_ofW HT_.out HW_.out (by kernel_rfl)) (fun _ _ _ h => h) (Or.inl ⟨by rfl, ?_⟩) hHeld ?_ ?_
              rotate_left
              · rintro w' ⟨s0, s1, s2, s3, s4, s5, s6, s7, s8⟩
                go_simp
                with_reducible rfl
              rotate_left
              · simp only [Act.put, List.setIfInBounds_toArray, List.set_cons_zero, List.set_cons_succ, i64_w, i32_w]
                rfl
              refine take_ (i := 15) (N := some 37) (v := ?_) (a' := ?_) #[true, true, true, true, true, true, true, true, true, true, true, true, true, true, true, true, false, false, false, false] rfl rfl (take_ofW HT_.out HW_.out (by kernel_rfl)) (fun _ _ _ h => h) (Or.inl ⟨by rfl, ?_⟩) hHeld ?_ ?_
              rotate_left
              · rintro w' ⟨s0, s1, s2, s3, s4, s5, s6, s7, s8⟩
                go_simp
                with_reducible rfl
              rotate_left
              · simp only [Act.put, List.setIfInBounds_toArray, List.set_cons_zero, List.set_cons_succ, i64_w, i32_w]
                rfl
              refine pure_ (i := 16) (N := some 38) (v := ?_) (a' := ?_) #[true, true, true, true, true, true, true, true, true, true, true, true, true, true, true, true, true, false, false, false] rfl rfl (any_of HT_.out (by kernel_rfl)) (fun _ _ _ h => h) (Or.inl ⟨by rfl, ?_⟩) ?_ ?_
              rotate_left
              · intro w'
                go_simp
                with_reducible rfl
              rotate_left
              · simp only [Act.put, List.setIfInBounds_toArray, List.set_cons_zero, List.set_cons_succ, i64_w, i32_w]
                rfl
              refine one_ (i := 17) (N := some 39) #[true, true, true, true, true, true, true, true, true, true, true, true, true, true, true, true, true, true, false, false] rfl rfl (one_of HT_.out (by kernel_rfl)) (by decide) (fun K hK => ?_)
              refine value_ (w1 := ?_) (v := ?_) (by rfl) rfl ?_ ?_
              rotate_left 2
              · go_simp
                constructor
                · rfl
                · rfl
              refine hK.out _ _ ⟨(World.cell?_alloc_lt _ _ _ (World.block_lt_of_cell? _ _ (((HB.out.cell (World.block_lt_of_cell? w _ hw137_0)).trans hw137_0)))).trans (((HB.out.cell (World.block_lt_of_cell? w _ hw137_0)).trans hw137_0)), (World.cell?_alloc_lt _ _ _ (World.block_lt_of_cell? _ _ (((HB.out.cell (World.block_lt_of_cell? w _ hw137_1)).trans hw137_1)))).trans (((HB.out.cell (World.block_lt_of_cell? w _ hw137_1)).trans hw137_1)), (World.cell?_alloc_lt _ _ _ (World.block_lt_of_cell? _ _ (((HB.out.cell (World.block_lt_of_cell? w _ hw137_2)).trans hw137_2)))).trans (((HB.out.cell (World.block_lt_of_cell? w _ hw137_2)).trans hw137_2)), (World.cell?_alloc_lt _ _ _ (World.block_lt_of_cell? _ _ (((HB.out.cell (World.block_lt_of_cell? w _ hw138_0)).trans hw138_0)))).trans (((HB.out.cell (World.block_lt_of_cell? w _ hw138_0)).trans hw138_0)), (World.cell?_alloc_lt _ _ _ (World.block_lt_of_cell? _ _ (((HB.out.cell (World.block_lt_of_cell? w _ hw138_1)).trans hw138_1)))).trans (((HB.out.cell (World.block_lt_of_cell? w _ hw138_1)).trans hw138_1)), (World.cell?_alloc_lt _ _ _ (World.block_lt_of_cell? _ _ (((HB.out.cell (World.block_lt_of_cell? w _ hw138_2)).trans hw138_2)))).trans (((HB.out.cell (World.block_lt_of_cell? w _ hw138_2)).trans hw138_2)), (World.cell?_alloc_lt _ _ _ (World.block_lt_of_cell? _ _ (((HB.out.cell (World.block_lt_of_cell? w _ hw139_0)).trans hw139_0)))).trans (((HB.out.cell (World.block_lt_of_cell? w _ hw139_0)).trans hw139_0)), (World.cell?_alloc_lt _ _ _ (World.block_lt_of_cell? _ _ (((HB.out.cell (World.block_lt_of_cell? w _ hw139_1)).trans hw139_1)))).trans (((HB.out.cell (World.block_lt_of_cell? w _ hw139_1)).trans hw139_1)), (World.cell?_alloc_lt _ _ _ (World.block_lt_of_cell? _ _ (((HB.out.cell (World.block_lt_of_cell? w _ hw139_2)).trans hw139_2)))).trans (((HB.out.cell (World.block_lt_of_cell? w _ hw139_2)).trans hw139_2))⟩ (fun hHeld => ?_)
              clear hK K
              refine norm_ (a' := ?_) ?_ ?_
              rotate_left
              · show Act.put _ (some 39) _ = _
                simp only [Act.put, List.setIfInBounds_toArray, List.set_cons_zero, List.set_cons_succ, i64_w, i32_w]
                rfl
              refine one_ (i := 18) (N := some 40) #[true, true, true, true, true, true, true, true, true, true, true, true, true, true, true, true, true, true, true, false] rfl rfl (one_of HT_.out (by kernel_rfl)) (by decide) (fun K hK => ?_)
              refine Kd.R_append_step k37 (w0 := w) w.heap.size (by rfl) (.tmp 22) (.tmp 39) 34 37 (.agg #[(.int .i64 0), (.int .i64 0), (.bool false)]) 24 rfl Try.underlying34 info37 rfl (by decide) (by omega) u5 x5_1 (⟨(rd_T36 l1 x6_1).f0, (rd_T36 l1 x6_1).f1, (rd_T36 l1 x6_1).f2⟩ : S37) [.int .i64 ((rd_T36 l1 x6_1).f0), .int .i64 ((rd_T36 l1 x6_1).f1), .bool ((rd_T36 l1 x6_1).f2)] (fun _ => True) (fun _ => False) rfl rfl ?aP (fun _ hk => hk.elim) ?aF ?aO ?aB ?aS ?aL ?_
              (case aP => exact k37_mkM _ _ _ (⟨(rd_T36 l1 x6_1).f0, (rd_T36 l1 x6_1).f1, (rd_T36 l1 x6_1).f2⟩ : S37))
              (case aB => exact (by repeat (first | (with_reducible first | exact HB.out | apply below_alloc | apply pw_below_drewN | apply below_drew1) | exact HB.out)))
              (case aF => exact (fun _ _ => trivial))
              (case aO => exact (by (with_reducible repeat (first | apply Kd.R_alloc | apply Kd.R_drewN | apply Kd.R_drew)); exact HO_5.out))
              (case aS => exact (below_size (by repeat (first | (with_reducible first | exact HB.out | apply below_alloc | apply pw_below_drewN | apply below_drew1) | exact HB.out))))
              (case aL => have := LMc8.out; omega)
              intro v141 w10 ho hb hg hat
              rw [← Ny140.out] at ho
              have n0_ := Aside0.mk (hb)
              have n1_ := Aside0.mk (ho)
              clear HB
              clear HO_5
              have HB := n0_
              have HO142 := n1_
              clear n0_ n1_
              clear ho hb hg hat
              refine hK.out _ _ ⟨((HB.out.cell (World.block_lt_of_cell? w _ hw137_0)).trans hw137_0), ((HB.out.cell (World.block_lt_of_cell? w _ hw137_1)).trans hw137_1), ((HB.out.cell (World.block_lt_of_cell? w _ hw137_2)).trans hw137_2), ((HB.out.cell (World.block_lt_of_cell? w _ hw138_0)).trans hw138_0), ((HB.out.cell (World.block_lt_of_cell? w _ hw138_1)).trans hw138_1), ((HB.out.cell (World.block_lt_of_cell? w _ hw138_2)).trans hw138_2), ((HB.out.cell (World.block_lt_of_cell? w _ hw139_0)).trans hw139_0), ((HB.out.cell (World.block_lt_of_cell? w _ hw139_1)).trans hw139_1), ((HB.out.cell (World.block_lt_of_cell? w _ hw139_2)).trans hw139_2)⟩ (fun hHeld => ?_)
              clear hK K
              refine norm_ (a' := ?_) ?_ ?_
              rotate_left
              · show Act.put _ (some 40) _ = _
                simp only [Act.put, List.setIfInBounds_toArray, List.set_cons_zero, List.set_cons_succ, i64_w, i32_w]
                rfl
              refine pure_ (i := 19) (N := some 5) (v := ?_) (a' := ?_) #[true, true, true, true, true, true, true, true, true, true, true, true, true, true, true, true, true, true, true, true] rfl rfl (any_of HT_.out (by kernel_rfl)) (fun _ _ _ h => h) (Or.inl ⟨by rfl, ?_⟩) ?_ ?_
              rotate_left
              · intro w'
                go_simp
                with_reducible rfl
              rotate_left
              · simp only [Act.put, List.setIfInBounds_toArray, List.set_cons_zero, List.set_cons_succ, i64_w, i32_w]
                rfl
              refine done_ (done_of HT_.out (by kernel_rfl)) ?_
              try go_wp2
              go_roundg k1
              case measure => have := HK1.out; omega
              case rel => exact ⟨(y140), (wrap64 (x6_1 + 1)), (by first | rfl | (simp; done) | (simp [*]; done)), H', ⟨by have := HK1.out; omega⟩, ⟨by (with_reducible repeat (first | apply Kd.R_alloc | apply Kd.R_drewN | apply Kd.R_drew)); exact HO142.out⟩, ⟨by repeat (first | (with_reducible first | exact HB.out | apply below_alloc | apply pw_below_drewN | apply below_drew1) | exact HB.out)⟩⟩
            · rw [if_neg c8] at H
              exact absurd H (by simp)
          · rw [if_neg c7] at H
            exact absurd H (by simp)
        · rw [if_neg c6] at H
          have c6b0 : decide (x6_1 < (l1.length : Int)) = false := decide_eq_false c6
          clear c6
          have H' := Aside0.mk H
          clear H
          go_wp2
          go_loopg [7] k1 (fun kq v7 w' => ∃ (x7_2 : Int), v7 = .int .i64 x7_2 ∧ Aside0 (beguinagelaw19_UsageAll.l1 kq a0 l1 x5_1 x7_2 = some r) ∧ Aside0 (kq ≤ k1) ∧ Aside0 (Kd.R k37 37 w' w.heap.size (fun _ => True) u5 x5_1) ∧ Aside0 (Below w.heap.size w w'))
          case atStart => exact ⟨(1), (by first | rfl | (simp; done) | (simp [*]; done)), H', ⟨Nat.le_refl _⟩, ⟨by (with_reducible repeat (first | apply Kd.R_alloc | apply Kd.R_drewN | apply Kd.R_drew)); exact HO_5.out⟩, ⟨by repeat (first | (with_reducible first | exact HB.out | apply below_alloc | apply pw_below_drewN | apply below_drew1) | exact HB.out)⟩⟩
          case round =>
            clear H'
            try clear c1
            try clear p1
            try clear q1
            try clear hx1
            try clear c2
            try clear p2
            try clear c3
            try clear c3b0
            try clear c3b1
            try clear c5
            try clear c6
            try clear c6b0
            try clear p6
            try clear c7
            try clear c7b0
            try clear c8
            try clear hx137_0
            try clear hx137_1
            try clear hx137_2
            try clear hx138_0
            try clear hx138_1
            try clear hx138_2
            try clear hx139_0
            try clear hx139_1
            try clear hx139_2
            try clear p137
            try clear p138
            try clear p139
            try clear p2
            try clear q137
            try clear q138
            try clear q139
            obtain ⟨x7_2, rfl, HA, HK2, HO_5, HB⟩ := hrel
            cases gk with
            | zero => exact absurd HA.out (by simp [beguinagelaw19_UsageAll.l1])
            | succ k2 =>
              have H := HA.out
              clear HA
              simp only [beguinagelaw19_UsageAll.l1] at H
              by_cases c11 : x7_2 < (l1.length : Int)
              · rw [if_pos c11] at H
                have c11b0 : decide (x7_2 < (l1.length : Int)) = true := decide_eq_true c11
                clear c11
                obtain ⟨ji12, hji12⟩ : ∃ j_ : Int, (wrap64 (x7_2 - 1)) = j_ := ⟨_, rfl⟩
                replace H : (if 0 ≤ (ji12) then (if (ji12) < (l1.length : Int) then (if 0 ≤ x7_2 then ((usage_Better.f a0 ((rd_T36 l1 (ji12)).f0) ((rd_T36 l1 (ji12)).f1) ((rd_T36 l1 (ji12)).f2) ((rd_T36 l1 x7_2).f0) ((rd_T36 l1 x7_2).f1) ((rd_T36 l1 x7_2).f2)).bind fun t153 => (if (ji12) < (x5_1.length : Int) then (if x7_2 < (x5_1.length : Int) then ((beguinageref19_Better.f a0 ((rd_T37 x5_1 (ji12)).f0) ((rd_T37 x5_1 (ji12)).f1) ((rd_T37 x5_1 (ji12)).f2) ((rd_T37 x5_1 x7_2).f0) ((rd_T37 x5_1 x7_2).f1) ((rd_T37 x5_1 x7_2).f2)).bind fun t156 => (if (t153 != t156) = true then (some false) else (beguinagelaw19_UsageAll.l1 k2 a0 l1 x5_1 (wrap64 (x7_2 + 1))))) else (none)) else (none))) else (none)) else (none)) else (none)) = some r := by first | (rw [hji12] at H; exact H) | (simp only [hji12] at H ⊢; exact H)
                have hji12w : (IntKind.i64.wrap (x7_2 - 1)) = ji12 := (i64_w _).trans hji12
                by_cases c13 : 0 ≤ (ji12)
                · rw [if_pos c13] at H
                  have c13b0 : decide (0 ≤ (ji12)) = true := decide_eq_true c13
                  clear c13
                  by_cases c14 : (ji12) < (l1.length : Int)
                  · rw [if_pos c14] at H
                    have c14b0 : decide ((ji12) < (l1.length : Int)) = true := decide_eq_true c14
                    clear c14
                    by_cases c15 : 0 ≤ x7_2
                    · rw [if_pos c15] at H
                      have c15b0 : decide (0 ≤ x7_2) = true := decide_eq_true c15
                      clear c15
                      replace H := Option.bind_eq_some_iff.mp H
                      obtain ⟨t153, A160, H⟩ := H
                      replace H : (if (ji12) < (x5_1.length : Int) then (if x7_2 < (x5_1.length : Int) then ((beguinageref19_Better.f a0 ((rd_T37 x5_1 (ji12)).f0) ((rd_T37 x5_1 (ji12)).f1) ((rd_T37 x5_1 (ji12)).f2) ((rd_T37 x5_1 x7_2).f0) ((rd_T37 x5_1 x7_2).f1) ((rd_T37 x5_1 x7_2).f2)).bind fun t156 => (if (t153 != t156) = true then (some false) else (beguinagelaw19_UsageAll.l1 k2 a0 l1 x5_1 (wrap64 (x7_2 + 1))))) else (none)) else (none)) = some r := H
                      have A16 := Aside0.mk A160
                      clear A160
                      by_cases c17 : (ji12) < (x5_1.length : Int)
                      · rw [if_pos c17] at H
                        have c17b0 : decide ((ji12) < (x5_1.length : Int)) = true := decide_eq_true c17
                        clear c17
                        by_cases c18 : x7_2 < (x5_1.length : Int)
                        · rw [if_pos c18] at H
                          have c18b0 : decide (x7_2 < (x5_1.length : Int)) = true := decide_eq_true c18
                          clear c18
                          replace H := Option.bind_eq_some_iff.mp H
                          obtain ⟨t156, A190, H⟩ := H
                          replace H : (if (t153 != t156) = true then (some false) else (beguinagelaw19_UsageAll.l1 k2 a0 l1 x5_1 (wrap64 (x7_2 + 1)))) = some r := H
                          have A19 := Aside0.mk A190
                          clear A190
                          by_cases c20 : (t153 != t156) = true
                          · rw [if_pos c20] at H
                            have c20b0 : (t153 != t156) = true := c20
                            (try (have c20b1 : decide (t153 = t156) = false := by simpa using c20))
                            (try (have c20b2 : (t153 == t156) = false := by simpa using c20))
                            (try (have c20b3 : ¬ (t153 = t156) := by simpa using c20))
                            clear c20
                            obtain rfl := Option.some.inj H
                            exact absurd hr_.out (by simp)
                          · rw [if_neg c20] at H
                            have c20b0 : (t153 != t156) = false := by simpa using c20
                            (try (have c20b1 : decide (t153 = t156) = true := by simpa using c20))
                            (try (have c20b2 : (t153 == t156) = true := by simpa using c20))
                            clear c20
                            have H' := Aside0.mk H
                            clear H
                            try go_wp2
                            have n0_ := Aside0.mk (Kd.R_drew HO_5.out)
                            have n1_ := Aside0.mk (below_drew1 HB.out)
                            clear HO_5
                            clear HB
                            have HO_5 := n0_
                            have HB := n1_
                            clear n0_ n1_
                            have p151 : 0 ≤ ((ji12) : Int) := of_decide_eq_true (by first | (with_reducible assumption) | assumption)
                            have q151 : (ji12) < (l1.length : Int) := of_decide_eq_true (by first | (with_reducible assumption) | assumption)
                            obtain ⟨ad151, e151, hx151_0, hx151_1, hx151_2⟩ := at_T36 HR1.out (ji12) p151 q151
                            have hw151_2 := hx151_2
                            have hw151_1 := hx151_1
                            have hw151_0 := hx151_0
                            cases e151
                            replace hx151_0 := (HB.out.cell (World.block_lt_of_cell? w _ hx151_0)).trans hx151_0
                            replace hx151_1 := (HB.out.cell (World.block_lt_of_cell? w _ hx151_1)).trans hx151_1
                            replace hx151_2 := (HB.out.cell (World.block_lt_of_cell? w _ hx151_2)).trans hx151_2
                            replace p151 := eq_true p151
                            replace q151 := eq_true q151
                            have p152 : 0 ≤ (x7_2 : Int) := of_decide_eq_true (by first | (with_reducible assumption) | assumption)
                            have q152 : x7_2 < (l1.length : Int) := of_decide_eq_true (by first | (with_reducible assumption) | assumption)
                            obtain ⟨ad152, e152, hx152_0, hx152_1, hx152_2⟩ := at_T36 HR1.out x7_2 p152 q152
                            have hw152_2 := hx152_2
                            have hw152_1 := hx152_1
                            have hw152_0 := hx152_0
                            obtain rfl : ad151 = ad152 := (by injection e152)
                            replace hx152_0 := (HB.out.cell (World.block_lt_of_cell? w _ hx152_0)).trans hx152_0
                            replace hx152_1 := (HB.out.cell (World.block_lt_of_cell? w _ hx152_1)).trans hx152_1
                            replace hx152_2 := (HB.out.cell (World.block_lt_of_cell? w _ hx152_2)).trans hx152_2
                            replace p152 := eq_true p152
                            replace q152 := eq_true q152
                            obtain ⟨Ao22, co22, eo22⟩ := Kd.R_slice HO_5.out
                            (first | subst eo22 | (injection eo22 with f1_ f2_ f3_; have f4_ := f1_.symm; have f5_ := f3_.symm; clear f1_ f2_ f3_; subst f4_; subst f5_))
                            have p154 : 0 ≤ ((ji12) : Int) := of_decide_eq_true (by first | (with_reducible assumption) | assumption)
                            have q154 : (ji12) < (x5_1.length : Int) := of_decide_eq_true (by first | (with_reducible assumption) | assumption)
                            obtain ⟨ad154, e154, hx154_0, hx154_1, hx154_2⟩ := at_T37 (Kd.R_reads' HO_5.out).2.2 (ji12) p154 q154
                            cases e154
                            replace p154 := eq_true p154
                            replace q154 := eq_true q154
                            have p155 : 0 ≤ (x7_2 : Int) := of_decide_eq_true (by first | (with_reducible assumption) | assumption)
                            have q155 : x7_2 < (x5_1.length : Int) := of_decide_eq_true (by first | (with_reducible assumption) | assumption)
                            obtain ⟨ad155, e155, hx155_0, hx155_1, hx155_2⟩ := at_T37 (Kd.R_reads' HO_5.out).2.2 x7_2 p155 q155
                            obtain rfl : ad154 = ad155 := (by injection e155)
                            replace p155 := eq_true p155
                            replace q155 := eq_true q155
                            refine start_ (n := 23) (S := fun w' => w'.cell? (ad151.add (((ji12)).toNat * 3)) = some (.int .i64 ((rd_T36 l1 (ji12)).f0)) ∧ w'.cell? ⟨(ad151.add (((ji12)).toNat * 3)).block, (ad151.add (((ji12)).toNat * 3)).off + 1, none⟩ = some (.int .i64 ((rd_T36 l1 (ji12)).f1)) ∧ w'.cell? ⟨(ad151.add (((ji12)).toNat * 3)).block, (ad151.add (((ji12)).toNat * 3)).off + 2, none⟩ = some (.bool ((rd_T36 l1 (ji12)).f2)) ∧ w'.cell? (ad151.add ((x7_2).toNat * 3)) = some (.int .i64 ((rd_T36 l1 x7_2).f0)) ∧ w'.cell? ⟨(ad151.add ((x7_2).toNat * 3)).block, (ad151.add ((x7_2).toNat * 3)).off + 1, none⟩ = some (.int .i64 ((rd_T36 l1 x7_2).f1)) ∧ w'.cell? ⟨(ad151.add ((x7_2).toNat * 3)).block, (ad151.add ((x7_2).toNat * 3)).off + 2, none⟩ = some (.bool ((rd_T36 l1 x7_2).f2)) ∧ w'.cell? (ad154.add (((ji12)).toNat * 3)) = some (.int .i64 ((rd_T37 x5_1 (ji12)).f0)) ∧ w'.cell? ⟨(ad154.add (((ji12)).toNat * 3)).block, (ad154.add (((ji12)).toNat * 3)).off + 1, none⟩ = some (.int .i64 ((rd_T37 x5_1 (ji12)).f1)) ∧ w'.cell? ⟨(ad154.add (((ji12)).toNat * 3)).block, (ad154.add (((ji12)).toNat * 3)).off + 2, none⟩ = some (.bool ((rd_T37 x5_1 (ji12)).f2)) ∧ w'.cell? (ad154.add ((x7_2).toNat * 3)) = some (.int .i64 ((rd_T37 x5_1 x7_2).f0)) ∧ w'.cell? ⟨(ad154.add ((x7_2).toNat * 3)).block, (ad154.add ((x7_2).toNat * 3)).off + 1, none⟩ = some (.int .i64 ((rd_T37 x5_1 x7_2).f1)) ∧ w'.cell? ⟨(ad154.add ((x7_2).toNat * 3)).block, (ad154.add ((x7_2).toNat * 3)).off + 2, none⟩ = some (.bool ((rd_T37 x5_1 x7_2).f2))) (ds := []) #[false, false, false, false, false, false, false, false, false, false, false, false, false, false, false, false, false, false, false, false, false, false, false] (by kernel_rfl) rfl rfl ⟨((HB.out.cell (World.block_lt_of_cell? w _ hw151_0)).trans hw151_0), ((HB.out.cell (World.block_lt_of_cell? w _ hw151_1)).trans hw151_1), ((HB.out.cell (World.block_lt_of_cell? w _ hw151_2)).trans hw151_2), ((HB.out.cell (World.block_lt_of_cell? w _ hw152_0)).trans hw152_0), ((HB.out.cell (World.block_lt_of_cell? w _ hw152_1)).trans hw152_1), ((HB.out.cell (World.block_lt_of_cell? w _ hw152_2)).trans hw152_2), hx154_0, hx154_1, hx154_2, hx155_0, hx155_1, hx155_2⟩ (fun hHeld => ?_); refine with_tabW beguinagelaw19_UsageAll.tab11 beguinagelaw19_UsageAll.bits11 (fun HT_ HW_ => ?_)
                            generalize wr.drew = w21 at HO_5 HB hx151_0 hx151_1 hx151_2 hx152_0 hx152_1 hx152_2 hx154_0 hx154_1 hx154_2 hx155_0 hx155_1 hx155_2 hHeld ⊢
                            refine pure_ (i := 0) (N := some 47) (v := ?_) (a' := ?_) #[true, false, false, false, false, false, false, false, false, false, false, false, false, false, false, false, false, false, false, false, false, false, false] rfl rfl (any_of HT_.out (by kernel_rfl)) (fun _ _ _ h => h) (Or.inl ⟨by rfl, ?_⟩) ?_ ?_
                            rotate_left
                            · intro w'
                              go_simp
                              with_reducible rfl
                            rotate_left
                            · simp only [Act.put, List.setIfInBounds_toArray, List.set_cons_zero, List.set_cons_succ, i64_w, i32_w]
                              rfl
                            refine pure_ (i := 1) (N := some 48) (v := ?_) (a' := ?_) #[true, true, false, false, false, false, false, false, false, false, false, false, false, false, false, false, false, false, false, false, false, false, false] rfl rfl (any_of HT_.out (by kernel_rfl)) (fun _ _ _ h => h) (Or.inl ⟨by rfl, ?_⟩) ?_ ?_
                            rotate_left
                            · intro w'
                              go_simp
                              with_reducible rfl
                            rotate_left
                            · simp only [Act.put, List.setIfInBounds_toArray, List.set_cons_zero, List.set_cons_succ, i64_w, i32_w]
                              rfl
                            refine pure_ (i := 2) (N := some 49) (v := ?_) (a' := ?_) #[true, true, true, false, false, false, false, false, false, false, false, false, false, false, false, false, false, false, false, false, false, false, false] rfl rfl (any_of HT_.out (by kernel_rfl)) (fun _ _ _ h => h) (Or.inl ⟨by rfl, ?_⟩) ?_ ?_
                            rotate_left
                            · intro w'
                              go_simp
                              with_reducible rfl
                            rotate_left
                            · simp only [Act.put, List.setIfInBounds_toArray, List.set_cons_zero, List.set_cons_succ, i64_w, i32_w]
                              rfl
                            refine pure_ (i := 3) (N := some 50) (v := ?_) (a' := ?_) #[true, true, true, true, false, false, false, false, false, false, false, false, false, false, false, false, false, false, false, false, false, false, false] rfl rfl (any_of HT_.out (by kernel_rfl)) (fun _ _ _ h => h) (Or.inl ⟨by rfl, ?_⟩) ?_ ?_
                            rotate_left
                            · intro w'
                              go_simp
                              with_reducible rfl
                            rotate_left
                            · simp only [Act.put, List.setIfInBounds_toArray, List.set_cons_zero, List.set_cons_succ, i64_w, i32_w]
                              rfl
                            refine pure_ (i := 4) (N := some 51) (v := ?_) (a' := ?_) #[true, true, true, true, true, false, false, false, false, false, false, false, false, false, false, false, false, false, false, false, false, false, false] rfl rfl (any_of HT_.out (by kernel_rfl)) (fun _ _ _ h => h) (Or.inl ⟨by rfl, ?_⟩) ?_ ?_
                            rotate_left
                            · intro w'
                              go_simp
                              with_reducible rfl
                            rotate_left
                            · simp only [Act.put, List.setIfInBounds_toArray, List.set_cons_zero, List.set_cons_succ, i64_w, i32_w]
                              rfl
                            refine pure_ (i := 6) (N := some 53) (v := ?_) (a' := ?_) #[true, true, true, true, true, false, true, false, false, false, false, false, false, false, false, false, false, false, false, false, false, false, false] rfl rfl (any_of HT_.out (by kernel_rfl)) (fun _ _ _ h => h) (Or.inl ⟨by rfl, ?_⟩) ?_ ?_
                            rotate_left
                            · intro w'
                              go_simp
                              with_reducible rfl
                            rotate_left
                            · simp only [Act.put, List.setIfInBounds_toArray, List.set_cons_zero, List.set_cons_succ, i64_w, i32_w]
                              rfl
                            refine pure_ (i := 7) (N := some 54) (v := ?_) (a' := ?_) #[true, true, true, true, true, false, true, true, false, false, false, false, false, false, false, false, false, false, false, false, false, false, false] rfl rfl (any_of HT_.out (by kernel_rfl)) (fun _ _ _ h => h) (Or.inl ⟨by rfl, ?_⟩) ?_ ?_
                            rotate_left
                            · intro w'
                              go_simp
                              with_reducible rfl
                            rotate_left
                            · simp only [Act.put, List.setIfInBounds_toArray, List.set_cons_zero, List.set_cons_succ, i64_w, i32_w]
                              rfl
                            refine pure_ (i := 8) (N := some 55) (v := ?_) (a' := ?_) #[true, true, true, true, true, false, true, true, true, false, false, false, false, false, false, false, false, false, false, false, false, false, false] rfl rfl (any_of HT_.out (by kernel_rfl)) (fun _ _ _ h => h) (Or.inl ⟨by rfl, ?_⟩) ?_ ?_
                            rotate_left
                            · intro w'
                              go_simp
                              with_reducible rfl
                            rotate_left
                            · simp only [Act.put, List.setIfInBounds_toArray, List.set_cons_zero, List.set_cons_succ, i64_w, i32_w]
                              rfl
                            refine pure_ (i := 11) (N := some 58) (v := ?_) (a' := ?_) #[true, true, true, true, true, false, true, true, true, false, false, true, false, false, false, false, false, false, false, false, false, false, false] rfl rfl (any_of HT_.out (by kernel_rfl)) (fun _ _ _ h => h) (Or.inl ⟨by rfl, ?_⟩) ?_ ?_
                            rotate_left
                            · intro w'
                              go_simp
                              with_reducible rfl
                            rotate_left
                            · simp only [Act.put, List.setIfInBounds_toArray, List.set_cons_zero, List.set_cons_succ, i64_w, i32_w]
                              rfl
                            refine pure_ (i := 12) (N := some 59) (v := ?_) (a' := ?_) #[true, true, true, true, true, false, true, true, true, false, false, true, true, false, false, false, false, false, false, false, false, false, false] rfl rfl (any_of HT_.out (by kernel_rfl)) (fun _ _ _ h => h) (Or.inl ⟨by rfl, ?_⟩) ?_ ?_
                            rotate_left
                            · intro w'
                              go_simp
                              with_reducible rfl
                            rotate_left
                            · simp only [Act.put, List.setIfInBounds_toArray, List.set_cons_zero, List.set_cons_succ, i64_w, i32_w]
                              rfl
                            refine pure_ (i := 13) (N := some 60) (v := ?_) (a' := ?_) #[true, true, true, true, true, false, true, true, true, false, false, true, true, true, false, false, false, false, false, false, false, false, false] rfl rfl (any_of HT_.out (by kernel_rfl)) (fun _ _ _ h => h) (Or.inl ⟨by rfl, ?_⟩) ?_ ?_
                            rotate_left
                            · intro w'
                              go_simp
                              with_reducible rfl
                            rotate_left
                            · simp only [Act.put, List.setIfInBounds_toArray, List.set_cons_zero, List.set_cons_succ, i64_w, i32_w]
                              rfl
                            refine pure_ (i := 14) (N := some 61) (v := ?_) (a' := ?_) #[true, true, true, true, true, false, true, true, true, false, false, true, true, true, true, false, false, false, false, false, false, false, false] rfl rfl (any_of HT_.out (by kernel_rfl)) (fun _ _ _ h => h) (Or.inl ⟨by rfl, ?_⟩) ?_ ?_
                            rotate_left
                            · intro w'
                              go_simp
                              with_reducible rfl
                            rotate_left
                            · simp only [Act.put, List.setIfInBounds_toArray, List.set_cons_zero, List.set_cons_succ, i64_w, i32_w]
                              rfl
                            refine pure_ (i := 15) (N := some 62) (v := ?_) (a' := ?_) #[true, true, true, true, true, false, true, true, true, false, false, true, true, true, true, true, false, false, false, false, false, false, false] rfl rfl (any_of HT_.out (by kernel_rfl)) (fun _ _ _ h => h) (Or.inl ⟨by rfl, ?_⟩) ?_ ?_
                            rotate_left
                            · intro w'
                              go_simp
                              with_reducible rfl
                            rotate_left
                            · simp only [Act.put, List.setIfInBounds_toArray, List.set_cons_zero, List.set_cons_succ, i64_w, i32_w]
                              rfl
                            refine pure_ (i := 17) (N := some 64) (v := ?_) (a' := ?_) #[true, true, true, true, true, false, true, true, true, false, false, true, true, true, true, true, false, true, false, false, false, false, false] rfl rfl (any_of HT_.out (by kernel_rfl)) (fun _ _ _ h => h) (Or.inl ⟨by rfl, ?_⟩) ?_ ?_
                            rotate_left
                            · intro w'
                              go_simp
                              with_reducible rfl
                            rotate_left
                            · simp only [Act.put, List.setIfInBounds_toArray, List.set_cons_zero, List.set_cons_succ, i64_w, i32_w]
                              rfl
                            refine pure_ (i := 18) (N := some 65) (v := ?_) (a' := ?_) #[true, true, true, true, true, false, true, true, true, false, false, true, true, true, true, true, false, true, true, false, false, false, false] rfl rfl (any_of HT_.out (by kernel_rfl)) (fun _ _ _ h => h) (Or.inl ⟨by rfl, ?_⟩) ?_ ?_
                            rotate_left
                            · intro w'
                              go_simp
                              with_reducible rfl
                            rotate_left
                            · simp only [Act.put, List.setIfInBounds_toArray, List.set_cons_zero, List.set_cons_succ, i64_w, i32_w]
                              rfl
                            refine pure_ (i := 19) (N := some 66) (v := ?_) (a' := ?_) #[true, true, true, true, true, false, true, true, true, false, false, true, true, true, true, true, false, true, true, true, false, false, false] rfl rfl (any_of HT_.out (by kernel_rfl)) (fun _ _ _ h => h) (Or.inl ⟨by rfl, ?_⟩) ?_ ?_
                            rotate_left
                            · intro w'
                              go_simp
                              with_reducible rfl
                            rotate_left
                            · simp only [Act.put, List.setIfInBounds_toArray, List.set_cons_zero, List.set_cons_succ, i64_w, i32_w]
                              rfl
                            refine take_ (i := 5) (N := some 52) (v := ?_) (a' := ?_) #[true, true, true, true, true, true, true, true, true, false, false, true, true, true, true, true, false, true, true, true, false, false, false] rfl rfl (take_ofW HT_.out HW_.out (by kernel_rfl)) (fun _ _ _ h => h) (Or.inl ⟨by rfl, ?_⟩) hHeld ?_ ?_
                            rotate_left
                            · rintro w' ⟨s0, s1, s2, s3, s4, s5, s6, s7, s8, s9, s10, s11⟩
                              go_simp
                              with_reducible rfl
                            rotate_left
                            · simp only [Act.put, List.setIfInBounds_toArray, List.set_cons_zero, List.set_cons_succ, i64_w, i32_w]
                              rfl
                            refine take_ (i := 9) (N := some 56) (v := ?_) (a' := ?_) #[true, true, true, true, true, true, true, true, true, true, false, true, true, true, true, true, false, true, true, true, false, false, false] rfl rfl (take_ofW HT_.out HW_.out (by kernel_rfl)) (fun _ _ _ h => h) (Or.inl ⟨by rfl, ?_⟩) hHeld ?_ ?_
                            rotate_left
                            · rintro w' ⟨s0, s1, s2, s3, s4, s5, s6, s7, s8, s9, s10, s11⟩
                              go_simp
                              with_reducible rfl
                            rotate_left
                            · simp only [Act.put, List.setIfInBounds_toArray, List.set_cons_zero, List.set_cons_succ, i64_w, i32_w]
                              rfl
                            refine take_ (i := 16) (N := some 63) (v := ?_) (a' := ?_) #[true, true, true, true, true, true, true, true, true, true, false, true, true, true, true, true, true, true, true, true, false, false, false] rfl rfl (take_ofW HT_.out HW_.out (by kernel_rfl)) (fun _ _ _ h => h) (Or.inl ⟨by rfl, ?_⟩) hHeld ?_ ?_
                            rotate_left
                            · rintro w' ⟨s0, s1, s2, s3, s4, s5, s6, s7, s8, s9, s10, s11⟩
                              go_simp
                              with_reducible rfl
                            rotate_left
                            · simp only [Act.put, List.setIfInBounds_toArray, List.set_cons_zero, List.set_cons_succ, i64_w, i32_w]
                              rfl
                            refine take_ (i := 20) (N := some 67) (v := ?_) (a' := ?_) #[true, true, true, true, true, true, true, true, true, true, false, true, true, true, true, true, true, true, true, true, true, false, false] rfl rfl (take_ofW HT_.out HW_.out (by kernel_rfl)) (fun _ _ _ h => h) (Or.inl ⟨by rfl, ?_⟩) hHeld ?_ ?_
                            rotate_left
                            · rintro w' ⟨s0, s1, s2, s3, s4, s5, s6, s7, s8, s9, s10, s11⟩
                              go_simp
                              with_reducible rfl
                            rotate_left
                            · simp only [Act.put, List.setIfInBounds_toArray, List.set_cons_zero, List.set_cons_succ, i64_w, i32_w]
                              rfl
                            refine one_ (i := 10) (N := some 57) #[true, true, true, true, true, true, true, true, true, true, true, true, true, true, true, true, true, true, true, true, true, false, false] rfl rfl (one_of HT_.out (by kernel_rfl)) (by decide) (fun K hK => ?_)
                            refine goes_ Try.func21 (by kernel_rfl) rfl #[.int .i64 a0, .agg #[.int .i64 ((rd_T36 l1 (ji12)).f0), .int .i64 ((rd_T36 l1 (ji12)).f1), .bool ((rd_T36 l1 (ji12)).f2)], .agg #[.int .i64 ((rd_T36 l1 x7_2).f0), .int .i64 ((rd_T36 l1 x7_2).f1), .bool ((rd_T36 l1 x7_2).f2)]] (by rfl) rfl rfl (by (try simp only [List.map_toArray, List.map_cons, List.map_nil]); first | done | (simp only [hji12]; rfl) | rfl | (simp only [List.length_drop, List.length_take]; rfl)) ?_
                            with_reducible refine (usage_Better.calls a0 ((rd_T36 l1 (ji12)).f0) ((rd_T36 l1 (ji12)).f1) ((rd_T36 l1 (ji12)).f2) ((rd_T36 l1 x7_2).f0) ((rd_T36 l1 x7_2).f1) ((rd_T36 l1 x7_2).f2) t153 _ A16.out).mono ?_
                            rintro e w23 ⟨rfl, hb⟩
                            have HS6_ := (hb.cell (World.block_lt_of_cell? _ _ (hHeld.2.2.2.2.2.2.1))).trans (hHeld.2.2.2.2.2.2.1)
                            have HS7_ := (hb.cell (World.block_lt_of_cell? _ _ (hHeld.2.2.2.2.2.2.2.1))).trans (hHeld.2.2.2.2.2.2.2.1)
                            have HS8_ := (hb.cell (World.block_lt_of_cell? _ _ (hHeld.2.2.2.2.2.2.2.2.1))).trans (hHeld.2.2.2.2.2.2.2.2.1)
                            have HS9_ := (hb.cell (World.block_lt_of_cell? _ _ (hHeld.2.2.2.2.2.2.2.2.2.1))).trans (hHeld.2.2.2.2.2.2.2.2.2.1)
                            have HS10_ := (hb.cell (World.block_lt_of_cell? _ _ (hHeld.2.2.2.2.2.2.2.2.2.2.1))).trans (hHeld.2.2.2.2.2.2.2.2.2.2.1)
                            have HS11_ := (hb.cell (World.block_lt_of_cell? _ _ (hHeld.2.2.2.2.2.2.2.2.2.2.2))).trans (hHeld.2.2.2.2.2.2.2.2.2.2.2)
                            refine ⟨_, rfl, ?_⟩
                            have n0_ := Aside0.mk (Kd.R_below (by (with_reducible repeat (first | apply Kd.R_alloc | apply Kd.R_drewN | apply Kd.R_drew)); exact HO_5.out) hb)
                            have n1_ := Aside0.mk (below_step (by repeat (first | (with_reducible first | exact HB.out | apply below_alloc | apply pw_below_drewN | apply below_drew1) | exact HB.out)) hb)
                            clear HO_5
                            clear HB
                            have HO_5 := n0_
                            have HB := n1_
                            clear n0_ n1_
                            (try clear hb)
                            (try clear hb2)
                            (try clear hk)
                            (try clear hi)
                            refine hK.out _ _ ⟨((HB.out.cell (World.block_lt_of_cell? w _ hw151_0)).trans hw151_0), ((HB.out.cell (World.block_lt_of_cell? w _ hw151_1)).trans hw151_1), ((HB.out.cell (World.block_lt_of_cell? w _ hw151_2)).trans hw151_2), ((HB.out.cell (World.block_lt_of_cell? w _ hw152_0)).trans hw152_0), ((HB.out.cell (World.block_lt_of_cell? w _ hw152_1)).trans hw152_1), ((HB.out.cell (World.block_lt_of_cell? w _ hw152_2)).trans hw152_2), HS6_, HS7_, HS8_, HS9_, HS10_, HS11_⟩ (fun hHeld => ?_)
                            clear hK K
                            refine norm_ (a' := ?_) ?_ ?_
                            rotate_left
                            · show Act.put _ (some 57) _ = _
                              simp only [Act.put, List.setIfInBounds_toArray, List.set_cons_zero, List.set_cons_succ, i64_w, i32_w]
                              rfl
                            refine one_ (i := 21) (N := some 68) #[true, true, true, true, true, true, true, true, true, true, true, true, true, true, true, true, true, true, true, true, true, true, false] rfl rfl (one_of HT_.out (by kernel_rfl)) (by decide) (fun K hK => ?_)
                            refine goes_ Try.func22 (by kernel_rfl) rfl #[.int .i64 a0, .agg #[.int .i64 ((rd_T37 x5_1 (ji12)).f0), .int .i64 ((rd_T37 x5_1 (ji12)).f1), .bool ((rd_T37 x5_1 (ji12)).f2)], .agg #[.int .i64 ((rd_T37 x5_1 x7_2).f0), .int .i64 ((rd_T37 x5_1 x7_2).f1), .bool ((rd_T37 x5_1 x7_2).f2)]] (by rfl) rfl rfl (by (try simp only [List.map_toArray, List.map_cons, List.map_nil]); first | done | (simp only [hji12]; rfl) | rfl | (simp only [List.length_drop, List.length_take]; rfl)) ?_
                            with_reducible refine (beguinageref19_Better.calls a0 ((rd_T37 x5_1 (ji12)).f0) ((rd_T37 x5_1 (ji12)).f1) ((rd_T37 x5_1 (ji12)).f2) ((rd_T37 x5_1 x7_2).f0) ((rd_T37 x5_1 x7_2).f1) ((rd_T37 x5_1 x7_2).f2) t156 _ A19.out).mono ?_
                            rintro e w24 ⟨rfl, hb⟩
                            have HS6_ := (hb.cell (World.block_lt_of_cell? _ _ (hHeld.2.2.2.2.2.2.1))).trans (hHeld.2.2.2.2.2.2.1)
                            have HS7_ := (hb.cell (World.block_lt_of_cell? _ _ (hHeld.2.2.2.2.2.2.2.1))).trans (hHeld.2.2.2.2.2.2.2.1)
                            have HS8_ := (hb.cell (World.block_lt_of_cell? _ _ (hHeld.2.2.2.2.2.2.2.2.1))).trans (hHeld.2.2.2.2.2.2.2.2.1)
                            have HS9_ := (hb.cell (World.block_lt_of_cell? _ _ (hHeld.2.2.2.2.2.2.2.2.2.1))).trans (hHeld.2.2.2.2.2.2.2.2.2.1)
                            have HS10_ := (hb.cell (World.block_lt_of_cell? _ _ (hHeld.2.2.2.2.2.2.2.2.2.2.1))).trans (hHeld.2.2.2.2.2.2.2.2.2.2.1)
                            have HS11_ := (hb.cell (World.block_lt_of_cell? _ _ (hHeld.2.2.2.2.2.2.2.2.2.2.2))).trans (hHeld.2.2.2.2.2.2.2.2.2.2.2)
                            refine ⟨_, rfl, ?_⟩
                            have n0_ := Aside0.mk (Kd.R_below (by (with_reducible repeat (first | apply Kd.R_alloc | apply Kd.R_drewN | apply Kd.R_drew)); exact HO_5.out) hb)
                            have n1_ := Aside0.mk (below_step (by repeat (first | (with_reducible first | exact HB.out | apply below_alloc | apply pw_below_drewN | apply below_drew1) | exact HB.out)) hb)
                            clear HO_5
                            clear HB
                            have HO_5 := n0_
                            have HB := n1_
                            clear n0_ n1_
                            (try clear hb)
                            (try clear hb2)
                            (try clear hk)
                            (try clear hi)
                            refine hK.out _ _ ⟨((HB.out.cell (World.block_lt_of_cell? w _ hw151_0)).trans hw151_0), ((HB.out.cell (World.block_lt_of_cell? w _ hw151_1)).trans hw151_1), ((HB.out.cell (World.block_lt_of_cell? w _ hw151_2)).trans hw151_2), ((HB.out.cell (World.block_lt_of_cell? w _ hw152_0)).trans hw152_0), ((HB.out.cell (World.block_lt_of_cell? w _ hw152_1)).trans hw152_1), ((HB.out.cell (World.block_lt_of_cell? w _ hw152_2)).trans hw152_2), HS6_, HS7_, HS8_, HS9_, HS10_, HS11_⟩ (fun hHeld => ?_)
                            clear hK K
                            refine norm_ (a' := ?_) ?_ ?_
                            rotate_left
                            · show Act.put _ (some 68) _ = _
                              simp only [Act.put, List.setIfInBounds_toArray, List.set_cons_zero, List.set_cons_succ, i64_w, i32_w]
                              rfl
                            refine pure_ (i := 22) (N := some 69) (v := ?_) (a' := ?_) #[true, true, true, true, true, true, true, true, true, true, true, true, true, true, true, true, true, true, true, true, true, true, true] rfl rfl (any_of HT_.out (by kernel_rfl)) (fun _ _ _ h => h) (Or.inl ⟨by rfl, ?_⟩) ?_ ?_
                            rotate_left
                            · intro w'
                              go_simp
                              with_reducible rfl
                            rotate_left
                            · simp only [Act.put, List.setIfInBounds_toArray, List.set_cons_zero, List.set_cons_succ, i64_w, i32_w]
                              rfl
                            refine done_ (done_of HT_.out (by kernel_rfl)) ?_
                            try go_wp2
                            go_roundg k2
                            case measure => have := HK1.out; have := HK2.out; omega
                            case rel => exact ⟨(wrap64 (x7_2 + 1)), (by first | rfl | (simp; done) | (simp [*]; done)), H', ⟨by have := HK1.out; have := HK2.out; omega⟩, ⟨by (with_reducible repeat (first | apply Kd.R_alloc | apply Kd.R_drewN | apply Kd.R_drew)); exact HO_5.out⟩, ⟨by repeat (first | (with_reducible first | exact HB.out | apply below_alloc | apply pw_below_drewN | apply below_drew1) | exact HB.out)⟩⟩
                        · rw [if_neg c18] at H
                          exact absurd H (by simp)
                      · rw [if_neg c17] at H
                        exact absurd H (by simp)
                    · rw [if_neg c15] at H
                      exact absurd H (by simp)
                  · rw [if_neg c14] at H
                    exact absurd H (by simp)
                · rw [if_neg c13] at H
                  exact absurd H (by simp)
              · rw [if_neg c11] at H
                have c11b0 : decide (x7_2 < (l1.length : Int)) = false := decide_eq_false c11
                clear c11
                by_cases c25 : ([] : List (S36)).length + l1.length < 5864062014805
                · rw [if_pos c25] at H
                  have LMc25 := Aside0.mk c25
                  clear c25
                  obtain ⟨y143, hy143⟩ : ∃ y_ : List (S36), y_ = (([] : List (S36)) ++ l1) := ⟨_, rfl⟩
                  replace H : ((usage_Pick.f k2 a0 y143).bind fun bt146 => ((beguinageref19_Pick.f k2 a0 x5_1).bind fun bt148 => (if bt146.1 = bt148.1 then (if (bt146.2 == bt148.2) = true then ((beguinagelaw19_awake.f k2).bind fun t150 => (some t150)) else (some false)) else (some false)))) = some r := by first | (rw [hy143]; with_reducible exact H) | (have H2_ := (Option.bind_some _ _).symm.trans H; rw [hy143]; with_reducible exact H2_) | (have H2_ := (Option.bind_some _ _).symm.trans H; with_reducible exact H2_) | with_reducible exact H | (rw [hy143]; exact H) | exact H
                  have Ny143 := Aside0.mk hy143
                  clear hy143
                  replace H := Option.bind_eq_some_iff.mp H
                  obtain ⟨⟨t146, t147⟩, A260, H⟩ := H
                  replace H : ((beguinageref19_Pick.f k2 a0 x5_1).bind fun bt148 => (if t146 = bt148.1 then (if (t147 == bt148.2) = true then ((beguinagelaw19_awake.f k2).bind fun t150 => (some t150)) else (some false)) else (some false))) = some r := H
                  have A26 := Aside0.mk A260
                  clear A260
                  replace H := Option.bind_eq_some_iff.mp H
                  obtain ⟨⟨t148, t149⟩, A270, H⟩ := H
                  replace H : (if t146 = t148 then (if (t147 == t149) = true then ((beguinagelaw19_awake.f k2).bind fun t150 => (some t150)) else (some false)) else (some false)) = some r := H
                  have A27 := Aside0.mk A270
                  clear A270
                  by_cases c28 : t146 = t148
                  · rw [if_pos c28] at H
                    have c28b0 : (t146 == t148) = true := beq_iff_eq.mpr c28
                    have c28b1 : (t146 != t148) = false := bne_eq_false_iff_eq.mpr c28
                    clear c28
                    by_cases c29 : (t147 == t149) = true
                    · rw [if_pos c29] at H
                      have c29b0 : (t147 == t149) = true := c29
                      (try (have c29b1 : decide (t147 = t149) = true := by simpa using c29))
                      (try (have c29b2 : (t147 == t149) = true := by simpa using c29))
                      clear c29
                      replace H := Option.bind_eq_some_iff.mp H
                      obtain ⟨t150, A300, H⟩ := H
                      replace H : (some t150) = some r := H
                      have A30 := Aside0.mk A300
                      clear A300
                      obtain rfl := Option.some.inj H
                      go_wp2_with (first | ((with_reducible refine gate_builtin (b := .append) (xs := #[.const (.slice none 0 0), .tmp 72]) rfl ?_); at_builtin; refine Kd.R_append_rows k36 (w0 := w) w.heap.size rfl (.const (.slice none 0 0)) (.tmp 72) 33 36 (.agg #[(.int .i64 0), (.int .i64 0), (.bool false)]) 24 rfl Try.underlying33 info36 rfl (by decide) (by omega) (.slice none 0 0) ([] : List (S36)) l1 _ _ _ (fun _ => True) (fun _ => False) rfl rfl ?aO ?aR (fun _ _ h => h) (fun _ h => h.elim) ?aF ?aB ?aS ?aL ?_; (case aR => repeat (first | exact (Kd.C_below HR1.out HB.out) | (with_reducible refine Kd.C_alloc ?_ _) | (with_reducible refine Kd.C_drewN ?_ _) | (with_reducible refine Kd.C_drew ?_))); (case aB => exact (by repeat (first | (with_reducible first | exact HB.out | apply below_alloc | apply pw_below_drewN | apply below_drew1) | exact HB.out))); (case aF => exact (fun _ _ => trivial)); (case aO => exact ((Kd.R_nil _ _ _ _ (fun _ => True)))); (case aS => exact (below_size (by repeat (first | (with_reducible first | exact HB.out | apply below_alloc | apply pw_below_drewN | apply below_drew1) | exact HB.out)))); (case aL => have := LMc25.out; omega); intro v144 w31 ho hb hg hat; rw [← Ny143.out] at ho; have n0_ := Aside0.mk (Kd.R_grown (by (with_reducible repeat (first | apply Kd.R_alloc | apply Kd.R_drewN | apply Kd.R_drew)); exact HO_5.out) hg (fun _ _ => by simp [Value.ownBlock])); have n1_ := Aside0.mk (hb); have n2_ := Aside0.mk (ho); clear HO_5; clear HB; have HO_5 := n0_; have HB := n1_; have HO145 := n2_; clear n0_ n1_ n2_; clear ho hb hg hat; obtain ⟨Ao32, co32, eo32⟩ := Kd.R_slice HO145.out; subst eo32) | ((with_reducible refine gate_callee (f := 23) rfl ?_); refine goesL_ (some 74) rfl rfl Try.func23 (by kernel_rfl) rfl #[.int .i64 a0, .slice Ao32 y143.length co32] rfl (by (try simp only [List.map_toArray, List.map_cons, List.map_nil]); first | done | rfl | (simp only [List.length_drop, List.length_take]; rfl)) ?_; (with_reducible refine (usage_Pick.calls k2 a0 _ _ y143 t146 t147 _ ?side1 ?side2 A26.out).mono ?_); (case side1 => repeat (first | exact (Kd.R_reads' HO145.out).2.2 | (with_reducible refine Kd.C_alloc ?_ _) | (with_reducible refine Kd.C_drewN ?_ _) | (with_reducible refine Kd.C_drew ?_))); (case side2 => exact (Kd.R_reads' HO145.out).2.1); rintro e w33 ⟨rfl, hb⟩; refine ⟨_, rfl, ?_⟩; have n0_ := Aside0.mk (Kd.R_below (by (with_reducible repeat (first | apply Kd.R_alloc | apply Kd.R_drewN | apply Kd.R_drew)); exact HO_5.out) hb); have n1_ := Aside0.mk (Kd.R_below (by (with_reducible repeat (first | apply Kd.R_alloc | apply Kd.R_drewN | apply Kd.R_drew)); exact HO145.out) hb); have n2_ := Aside0.mk (below_step (by repeat (first | (with_reducible first | exact HB.out | apply below_alloc | apply pw_below_drewN | apply below_drew1) | exact HB.out)) hb); clear HO_5; clear HO145; clear HB; have HO_5 := n0_; have HO145 := n1_; have HB := n2_; clear n0_ n1_ n2_; (try clear hb); (try clear hb2); (try clear hk); (try clear hi); obtain ⟨Ao34, co34, eo34⟩ := Kd.R_slice HO_5.out; subst eo34) | ((with_reducible refine gate_callee (f := 24) rfl ?_); refine goesL_ (some 80) rfl rfl Try.func24 (by kernel_rfl) rfl #[.int .i64 a0, .slice Ao34 x5_1.length co34] rfl (by (try simp only [List.map_toArray, List.map_cons, List.map_nil]); first | done | rfl | (simp only [List.length_drop, List.length_take]; rfl)) ?_; (with_reducible refine (beguinageref19_Pick.calls k2 a0 _ _ x5_1 t148 t149 _ ?side1 ?side2 A27.out).mono ?_); (case side1 => repeat (first | exact (Kd.R_reads' HO_5.out).2.2 | (with_reducible refine Kd.C_alloc ?_ _) | (with_reducible refine Kd.C_drewN ?_ _) | (with_reducible refine Kd.C_drew ?_))); (case side2 => exact (Kd.R_reads' HO_5.out).2.1); rintro e w35 ⟨rfl, hb⟩; refine ⟨_, rfl, ?_⟩; have n0_ := Aside0.mk (Kd.R_below (by (with_reducible repeat (first | apply Kd.R_alloc | apply Kd.R_drewN | apply Kd.R_drew)); exact HO_5.out) hb); have n1_ := Aside0.mk (Kd.R_below (by (with_reducible repeat (first | apply Kd.R_alloc | apply Kd.R_drewN | apply Kd.R_drew)); exact HO145.out) hb); have n2_ := Aside0.mk (below_step (by repeat (first | (with_reducible first | exact HB.out | apply below_alloc | apply pw_below_drewN | apply below_drew1) | exact HB.out)) hb); clear HO_5; clear HO145; clear HB; have HO_5 := n0_; have HO145 := n1_; have HB := n2_; clear n0_ n1_ n2_; (try clear hb); (try clear hb2); (try clear hk); (try clear hi)) | (go_at_call 20; (with_reducible refine (beguinagelaw19_awake.calls k2  t150 _ A30.out).mono ?_); rintro e w36 ⟨rfl, hb⟩; have n0_ := Aside0.mk (Kd.R_below (by (with_reducible repeat (first | apply Kd.R_alloc | apply Kd.R_drewN | apply Kd.R_drew)); exact HO_5.out) hb); have n1_ := Aside0.mk (Kd.R_below (by (with_reducible repeat (first | apply Kd.R_alloc | apply Kd.R_drewN | apply Kd.R_drew)); exact HO145.out) hb); have n2_ := Aside0.mk (below_step (by repeat (first | (with_reducible first | exact HB.out | apply below_alloc | apply pw_below_drewN | apply below_drew1) | exact HB.out)) hb); clear HO_5; clear HO145; clear HB; have HO_5 := n0_; have HO145 := n1_; have HB := n2_; clear n0_ n1_ n2_; (try clear hb); (try clear hb2); (try clear hk); (try clear hi)))
                      go_ret
                      exact ⟨by first | rfl | (simp [errW_none, errW_some] <;> rfl) | (simp [*, errW_none, errW_some] <;> rfl), by repeat (first | (with_reducible first | exact HB.out | apply below_alloc | apply pw_below_drewN | apply below_drew1) | exact HB.out)⟩
                    · rw [if_neg c29] at H
                      have c29b0 : (t147 == t149) = false := by simpa using c29
                      (try (have c29b1 : decide (t147 = t149) = false := by simpa using c29))
                      (try (have c29b2 : (t147 == t149) = false := by simpa using c29))
                      (try (have c29b3 : ¬ (t147 = t149) := by simpa using c29))
                      clear c29
                      obtain rfl := Option.some.inj H
                      exact absurd hr_.out (by simp)
                  · rw [if_neg c28] at H
                    have c28b0 : (t146 == t148) = false := beq_eq_false_iff_ne.mpr c28
                    have c28b1 : (t146 != t148) = true := bne_iff_ne.mpr c28
                    obtain rfl := Option.some.inj H
                    exact absurd hr_.out (by simp)
                · rw [if_neg c25] at H
                  exact absurd H (by simp)

end Go.Proofs.Ytmjkkkllmpagpaa.PUsage
