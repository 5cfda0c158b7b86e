-- Written by wip/pr.py, a program of this session's own that drives the kit's printer: not a text of print.sh.
import Derived.Test.YtmjkkkllmpagpaaPQuotax0
import Derived.Test.YtmjkkkllmpagpaaPQuotax5
import Derived.Test.YtmjkkkllmpagpaaPQuotax7
import Derived.Test.YtmjkkkllmpagpaaPQuotax8
import Derived.Test.YtmjkkkllmpagpaaQuotaGiven
import Derived.Test.YtmjkkkllmpagpaaLater
namespace Go.Proofs.Ytmjkkkllmpagpaa.PQuota
open Go.RowKit Go.Proofs.YtmjkkkllmpagpaaW.PrintWords Go.Proofs.YtmjkkkllmpagpaaW.PrintLast Go.Proofs.YtmjkkkllmpagpaaW.PrintMore
attribute [local go_sem] max2_int min2_int max_two min_two max_three min_three max_four min_four   -- for this text's walks alone
set_option linter.unusedVariables false
set_option linter.unusedSimpArgs false

/-! ### beguinagelaw22_QuotaAll: function 10 -/
def beguinagelaw22_QuotaAll.f (a0_0 : Int) (a0_1 : Int) (a0_2 : Int) (a0_3 : Int) (a0_4 : Int) (a0_5 : Int) (a0_6 : Int) (a1_0 : Int) (a1_1 : Int) (a1_2 : Int) (a1_3 : Int) (a2 : Int) (a3 : Int) (a4 : Int) : Option (Bool) := (quota_Next.f a0_0 a0_1 a0_2 a0_3 a0_4 a0_5 a0_6 a1_0 a1_1 a1_2 a1_3 a2 a3 a4).bind fun bt121 => ((beguinageref22_Next.f a0_0 a0_1 a0_2 a0_3 a0_4 a0_5 a0_6 a1_0 a1_1 a1_2 a1_3 a2 a3 a4).bind fun bt125 => ((quota_May.f a0_0 a0_1 a0_2 a0_3 a0_4 a0_5 a0_6 a1_0 a1_1 a1_2 a1_3 a2 a3 a4).bind fun t131 => ((beguinageref22_May.f a0_0 a0_1 a0_2 a0_3 a0_4 a0_5 a0_6 a1_0 a1_1 a1_2 a1_3 a2 a3 a4).bind fun t132 => (if (t131 == t132) = true then (if bt121.1 = bt125.1 then (if bt121.2.1 = bt125.2.1 then (if bt121.2.2.1 = bt125.2.2.1 then (if bt121.2.2.2 = bt125.2.2.2 then ((beguinagelaw22_awake.f).bind fun t133 => (some t133)) else (some false)) else (some false)) else (some false)) else (some false)) else (some false)))))
def beguinagelaw22_QuotaAll.T2 : Bool × List (List Nat × List Nat) := (true, [([], []), ([], []), ([], []), ([], []), ([], []), ([0, 1, 2, 3, 4], [0, 1, 2, 3, 4]), ([], []), ([], []), ([], []), ([], []), ([], []), ([6, 7, 8, 9, 10, 5], [6, 7, 8, 9, 10]), ([], []), ([], []), ([12, 5, 11, 0, 1, 2, 3, 4, 5, 12, 13], [5, 12]), ([13, 11, 14, 0, 1, 2, 3, 4, 5, 6, 7, 8, 9, 10, 11, 12, 13, 14], [11, 13])])
def beguinagelaw22_QuotaAll.B2 : List Nat := [0, 0, 0, 0, 0, 31, 0, 0, 0, 0, 0, 2047, 0, 0, 16383, 32767]
theorem beguinagelaw22_QuotaAll.tab2 : rtab .any (opsOf Try.f10 2) = beguinagelaw22_QuotaAll.T2 := by kernel_rfl
theorem beguinagelaw22_QuotaAll.bits2 : waitsOk beguinagelaw22_QuotaAll.T2.2 beguinagelaw22_QuotaAll.B2 = true := by kernel_rfl
def beguinagelaw22_QuotaAll.T3 : Bool × List (List Nat × List Nat) := (true, [([], []), ([], []), ([], []), ([], []), ([], []), ([0, 1, 2, 3, 4], [0, 1, 2, 3, 4]), ([], []), ([], []), ([], []), ([], []), ([], []), ([6, 7, 8, 9, 10, 5], [6, 7, 8, 9, 10]), ([5, 11], [5, 11]), ([12, 11], [12]), ([13], [13]), ([14, 13], [13, 14]), ([13], [13]), ([16, 13], [13, 16]), ([15, 17, 13], [13, 15, 17]), ([13, 18], [13, 18]), ([19, 13], [19]), ([20], [20]), ([21, 20], [20, 21]), ([20], [20]), ([23, 20], [20, 23]), ([22, 24, 20], [20, 22, 24]), ([20, 25], [20, 25]), ([26, 20], [26]), ([27], [27]), ([28, 27], [27, 28]), ([27], [27]), ([30, 27], [27, 30]), ([29, 31, 27], [27, 29, 31]), ([27, 32], [27, 32]), ([33, 27], [33]), ([34], [34]), ([35, 34], [34, 35]), ([34], [34]), ([37, 34], [34, 37]), ([36, 38, 34], [34, 36, 38]), ([34, 39], [34, 39]), ([40, 34], [40]), ([41, 41], [41]), ([41, 42], [41, 42]), ([43, 42, 0, 1, 2, 3, 4, 5, 6, 7, 8, 9, 10, 11, 12, 13, 14, 15, 16, 17, 18, 19, 20, 21, 22, 23, 24, 25, 26, 27, 28, 29, 30, 31, 32, 33, 34, 35, 36, 37, 38, 39, 40, 41, 42, 43], [43])])
def beguinagelaw22_QuotaAll.B3 : List Nat := [0, 0, 0, 0, 0, 31, 0, 0, 0, 0, 0, 2047, 4095, 8191, 16383, 32767, 16383, 81919, 262143, 524287, 1048575, 2097151, 4194303, 2097151, 10485759, 33554431, 67108863, 134217727, 268435455, 536870911, 268435455, 1342177279, 4294967295, 8589934591, 17179869183, 34359738367, 68719476735, 34359738367, 171798691839, 549755813887, 1099511627775, 2199023255551, 4398046511103, 8796093022207, 17592186044415]
theorem beguinagelaw22_QuotaAll.tab3 : rtab .any (opsOf Try.f10 3) = beguinagelaw22_QuotaAll.T3 := by kernel_rfl
theorem beguinagelaw22_QuotaAll.bits3 : waitsOk beguinagelaw22_QuotaAll.T3.2 beguinagelaw22_QuotaAll.B3 = true := by kernel_rfl
set_option maxHeartbeats 8000000 in
set_option maxRecDepth 100000 in
theorem beguinagelaw22_QuotaAll.calls (a0_0 : Int) (a0_1 : Int) (a0_2 : Int) (a0_3 : Int) (a0_4 : Int) (a0_5 : Int) (a0_6 : Int) (a1_0 : Int) (a1_1 : Int) (a1_2 : Int) (a1_3 : Int) (a2 : Int) (a3 : Int) (a4 : Int) (r : Bool) (w : World) (h : beguinagelaw22_QuotaAll.f a0_0 a0_1 a0_2 a0_3 a0_4 a0_5 a0_6 a1_0 a1_1 a1_2 a1_3 a2 a3 a4 = some r) (hr_ : Aside0 (r = true)) :
    Calls Try.prog 10 #[.agg #[.int .i64 a0_0, .int .i64 a0_1, .int .i64 a0_2, .int .i64 a0_3, .int .i64 a0_4, .int .i64 a0_5, .int .i64 a0_6], .agg #[.int .i64 a1_0, .int .i64 a1_1, .int .i64 a1_2, .int .i64 a1_3], .int .i64 a2, .int .i64 a3, .int .i64 a4] w fun e w' => e = .returned (.bool r) ∧ Below w.heap.size w w' := by
  have hu29 := Try.underlying29
  have hu53 := Try.underlying53
  have hu54 := Try.underlying54
  have HB := Aside0.mk (Below.refl w.heap.size w)
  have H : ((quota_Next.f a0_0 a0_1 a0_2 a0_3 a0_4 a0_5 a0_6 a1_0 a1_1 a1_2 a1_3 a2 a3 a4).bind fun bt121 => ((beguinageref22_Next.f a0_0 a0_1 a0_2 a0_3 a0_4 a0_5 a0_6 a1_0 a1_1 a1_2 a1_3 a2 a3 a4).bind fun bt125 => ((quota_May.f a0_0 a0_1 a0_2 a0_3 a0_4 a0_5 a0_6 a1_0 a1_1 a1_2 a1_3 a2 a3 a4).bind fun t131 => ((beguinageref22_May.f a0_0 a0_1 a0_2 a0_3 a0_4 a0_5 a0_6 a1_0 a1_1 a1_2 a1_3 a2 a3 a4).bind fun t132 => (if (t131 == t132) = true then (if bt121.1 = bt125.1 then (if bt121.2.1 = bt125.2.1 then (if bt121.2.2.1 = bt125.2.2.1 then (if bt121.2.2.2 = bt125.2.2.2 then ((beguinagelaw22_awake.f).bind fun t133 => (some t133)) else (some false)) else (some false)) else (some false)) else (some false)) else (some false)))))) = some r := h
  clear h
  replace H := Option.bind_eq_some_iff.mp H
  obtain ⟨⟨t121, t122, t123, t124⟩, A60, H⟩ := H
  replace H : ((beguinageref22_Next.f a0_0 a0_1 a0_2 a0_3 a0_4 a0_5 a0_6 a1_0 a1_1 a1_2 a1_3 a2 a3 a4).bind fun bt125 => ((quota_May.f a0_0 a0_1 a0_2 a0_3 a0_4 a0_5 a0_6 a1_0 a1_1 a1_2 a1_3 a2 a3 a4).bind fun t131 => ((beguinageref22_May.f a0_0 a0_1 a0_2 a0_3 a0_4 a0_5 a0_6 a1_0 a1_1 a1_2 a1_3 a2 a3 a4).bind fun t132 => (if (t131 == t132) = true then (if t121 = bt125.1 then (if t122 = bt125.2.1 then (if t123 = bt125.2.2.1 then (if t124 = bt125.2.2.2 then ((beguinagelaw22_awake.f).bind fun t133 => (some t133)) else (some false)) else (some false)) else (some false)) else (some false)) else (some false))))) = some r := H
  have A6 := Aside0.mk A60
  clear A60
  replace H := Option.bind_eq_some_iff.mp H
  obtain ⟨⟨t125, t126, t127, t128⟩, A70, H⟩ := H
  replace H : ((quota_May.f a0_0 a0_1 a0_2 a0_3 a0_4 a0_5 a0_6 a1_0 a1_1 a1_2 a1_3 a2 a3 a4).bind fun t131 => ((beguinageref22_May.f a0_0 a0_1 a0_2 a0_3 a0_4 a0_5 a0_6 a1_0 a1_1 a1_2 a1_3 a2 a3 a4).bind fun t132 => (if (t131 == t132) = true then (if t121 = t125 then (if t122 = t126 then (if t123 = t127 then (if t124 = t128 then ((beguinagelaw22_awake.f).bind fun t133 => (some t133)) else (some false)) else (some false)) else (some false)) else (some false)) else (some false)))) = some r := H
  have A7 := Aside0.mk A70
  clear A70
  replace H := Option.bind_eq_some_iff.mp H
  obtain ⟨t131, A80, H⟩ := H
  replace H : ((beguinageref22_May.f a0_0 a0_1 a0_2 a0_3 a0_4 a0_5 a0_6 a1_0 a1_1 a1_2 a1_3 a2 a3 a4).bind fun t132 => (if (t131 == t132) = true then (if t121 = t125 then (if t122 = t126 then (if t123 = t127 then (if t124 = t128 then ((beguinagelaw22_awake.f).bind fun t133 => (some t133)) else (some false)) else (some false)) else (some false)) else (some false)) else (some false))) = some r := H
  have A8 := Aside0.mk A80
  clear A80
  replace H := Option.bind_eq_some_iff.mp H
  obtain ⟨t132, A90, H⟩ := H
  replace H : (if (t131 == t132) = true then (if t121 = t125 then (if t122 = t126 then (if t123 = t127 then (if t124 = t128 then ((beguinagelaw22_awake.f).bind fun t133 => (some t133)) else (some false)) else (some false)) else (some false)) else (some false)) else (some false)) = some r := H
  have A9 := Aside0.mk A90
  clear A90
  by_cases c10 : (t131 == t132) = true
  · rw [if_pos c10] at H
    have c10b0 : (t131 == t132) = true := c10
    (try (have c10b1 : decide (t131 = t132) = true := by simpa using c10))
    (try (have c10b2 : (t131 == t132) = true := by simpa using c10))
    clear c10
    by_cases c11 : t121 = t125
    · rw [if_pos c11] at H
      have c11b0 : (t121 == t125) = true := beq_iff_eq.mpr c11
      have c11b1 : (t121 != t125) = false := bne_eq_false_iff_eq.mpr c11
      clear c11
      by_cases c12 : t122 = t126
      · rw [if_pos c12] at H
        have c12b0 : (t122 == t126) = true := beq_iff_eq.mpr c12
        have c12b1 : (t122 != t126) = false := bne_eq_false_iff_eq.mpr c12
        clear c12
        by_cases c13 : t123 = t127
        · rw [if_pos c13] at H
          have c13b0 : (t123 == t127) = true := beq_iff_eq.mpr c13
          have c13b1 : (t123 != t127) = false := bne_eq_false_iff_eq.mpr c13
          clear c13
          by_cases c14 : t124 = t128
          · rw [if_pos c14] at H
            have c14b0 : (t124 == t128) = true := beq_iff_eq.mpr c14
            have c14b1 : (t124 != t128) = false := bne_eq_false_iff_eq.mpr c14
            clear c14
            replace H := Option.bind_eq_some_iff.mp H
            obtain ⟨t133, A150, H⟩ := H
            replace H : (some t133) = some r := H
            have A15 := Aside0.mk A150
            clear A150
            obtain rfl := Option.some.inj H
            go_enter Try.func10, Try.ntmps10
            try go_wp2_with (first | ((with_reducible refine gate_dst (N := 5) rfl ?_); refine box_event ?hg (N := 5) ?hd (cs := #[.int .i64 a0_0, .int .i64 a0_1, .int .i64 a0_2, .int .i64 a0_3, .int .i64 a0_4, .int .i64 a0_5, .int .i64 a0_6]) (t := 29) ?hr ?_; (case hd => rfl); (case hg => rfl); (case hr => first | (go_simp; done) | (go_simp; rfl)); intro gb118 hg w16 hbox hb; have n0_ := Aside0.mk (below_step (by repeat (first | (with_reducible first | exact HB.out | apply below_alloc | apply pw_below_drewN | apply below_drew1) | exact HB.out)) hb); have n1_ := Aside0.mk (hbox); have n2_ := Aside0.mk ((by rw [hg]; exact (below_size (by repeat (first | (with_reducible first | exact HB.out | apply below_alloc | apply pw_below_drewN | apply below_drew1) | exact HB.out))) : w.heap.size ≤ gb118)); have n3_ := Aside0.mk ((by rw [hg]; exact (below_size (by repeat (first | (with_reducible first | exact HB.out | apply below_alloc | apply pw_below_drewN | apply below_drew1) | exact HB.out))) : w.heap.size ≤ gb118)); clear HB; have HB := n0_; have BK118 := n1_; have GW118 := n2_; have GE118 := n3_; clear n0_ n1_ n2_ n3_; clear hb hbox hg) | ((with_reducible refine gate_dst (N := 6) rfl ?_); refine box_event ?hg (N := 6) ?hd (cs := #[.int .i64 a1_0, .int .i64 a1_1, .int .i64 a1_2, .int .i64 a1_3]) (t := 53) ?hr ?_; (case hd => rfl); (case hg => rfl); (case hr => first | (go_simp; done) | (go_simp; rfl)); intro gb119 hg w17 hbox hb; have n0_ := Aside0.mk (blk_below (blk_l BK118.out) hb); have n1_ := Aside0.mk (below_step (by repeat (first | (with_reducible first | exact HB.out | apply below_alloc | apply pw_below_drewN | apply below_drew1 | refine below_set ?_ GE118.out) | exact HB.out)) hb); have n2_ := Aside0.mk (hbox); have n3_ := Aside0.mk ((by rw [hg]; exact (below_size (by repeat (first | (with_reducible first | exact HB.out | apply below_alloc | apply pw_below_drewN | apply below_drew1 | refine below_set ?_ GE118.out) | exact HB.out))) : w.heap.size ≤ gb119)); have n4_ := Aside0.mk ((by rw [hg]; exact (below_size (by repeat (first | (with_reducible first | exact HB.out | apply below_alloc | apply pw_below_drewN | apply below_drew1 | refine below_set ?_ GE118.out) | exact HB.out))) : w.heap.size ≤ gb119)); have n5_ := Aside0.mk ((by rw [hg]; exact Nat.ne_of_lt (blk_lt (blk_l BK118.out)) : gb118 ≠ gb119)); have n6_ := Aside0.mk ((by rw [hg]; exact Nat.ne_of_gt (blk_lt (blk_l BK118.out)) : gb119 ≠ gb118)); clear BK118; clear HB; have BK118 := n0_; have HB := n1_; have BK119 := n2_; have GW119 := n3_; have GE119 := n4_; have NB118_119 := n5_; have NB119_118 := n6_; clear n0_ n1_ n2_ n3_ n4_ n5_ n6_; clear hb hbox hg; have hnb18 := NB119_118.out; have hnc18 := NB118_119.out; have hcz19_0 : w17.cell? ⟨gb119, 0, none⟩ = some (.int .i64 a1_0) := (blk_cell BK119.out 0).trans rfl; have hcz19_1 : w17.cell? ⟨gb119, 1, none⟩ = some (.int .i64 a1_1) := (blk_cell BK119.out 1).trans rfl; have hcz19_2 : w17.cell? ⟨gb119, 2, none⟩ = some (.int .i64 a1_2) := (blk_cell BK119.out 2).trans rfl; have hcz19_3 : w17.cell? ⟨gb119, 3, none⟩ = some (.int .i64 a1_3) := (blk_cell BK119.out 3).trans rfl; have hfz19_0 := blk_frozen BK119.out 0; have hfz19_1 := blk_frozen BK119.out 1; have hfz19_2 := blk_frozen BK119.out 2; have hfz19_3 := blk_frozen BK119.out 3) | ((with_reducible refine gate_dst (N := 11) rfl ?_); refine box_event ?hg (N := 11) ?hd (cs := #[.int .i64 0, .int .i64 0, .int .i64 0, .int .i64 0]) (t := 54) ?hr ?_; (case hd => rfl); (case hg => rfl); (case hr => first | (go_simp; done) | (go_simp; rfl)); intro gb120 hg w20 hbox hb; have n0_ := Aside0.mk (blk_below (blk_l BK118.out) hb); have n1_ := Aside0.mk (blk_below (blk_l BK119.out) hb); have n2_ := Aside0.mk (below_step (by repeat (first | (with_reducible first | exact HB.out | apply below_alloc | apply pw_below_drewN | apply below_drew1 | refine below_set ?_ GE118.out | refine below_set ?_ GE119.out) | exact HB.out)) hb); have n3_ := Aside0.mk (hbox); have n4_ := Aside0.mk ((by rw [hg]; exact (below_size (by repeat (first | (with_reducible first | exact HB.out | apply below_alloc | apply pw_below_drewN | apply below_drew1 | refine below_set ?_ GE118.out | refine below_set ?_ GE119.out) | exact HB.out))) : w.heap.size ≤ gb120)); have n5_ := Aside0.mk ((by rw [hg]; exact (below_size (by repeat (first | (with_reducible first | exact HB.out | apply below_alloc | apply pw_below_drewN | apply below_drew1 | refine below_set ?_ GE118.out | refine below_set ?_ GE119.out) | exact HB.out))) : w.heap.size ≤ gb120)); have n6_ := Aside0.mk ((by rw [hg]; exact Nat.ne_of_lt (blk_lt (blk_l BK118.out)) : gb118 ≠ gb120)); have n7_ := Aside0.mk ((by rw [hg]; exact Nat.ne_of_gt (blk_lt (blk_l BK118.out)) : gb120 ≠ gb118)); have n8_ := Aside0.mk ((by rw [hg]; exact Nat.ne_of_lt (blk_lt (blk_l BK119.out)) : gb119 ≠ gb120)); have n9_ := Aside0.mk ((by rw [hg]; exact Nat.ne_of_gt (blk_lt (blk_l BK119.out)) : gb120 ≠ gb119)); clear BK118; clear BK119; clear HB; have BK118 := n0_; have BK119 := n1_; have HB := n2_; have BK120 := n3_; have GW120 := n4_; have GE120 := n5_; have NB118_120 := n6_; have NB120_118 := n7_; have NB119_120 := n8_; have NB120_119 := n9_; clear n0_ n1_ n2_ n3_ n4_ n5_ n6_ n7_ n8_ n9_; clear hb hbox hg; have hnb21 := NB120_118.out; have hnc21 := NB118_120.out; have hnb22 := NB120_119.out; have hnc22 := NB119_120.out; have hcz23_0 : w20.cell? ⟨gb120, 0, none⟩ = some (.int .i64 0) := (blk_cell BK120.out 0).trans rfl; have hcz23_1 : w20.cell? ⟨gb120, 1, none⟩ = some (.int .i64 0) := (blk_cell BK120.out 1).trans rfl; have hcz23_2 : w20.cell? ⟨gb120, 2, none⟩ = some (.int .i64 0) := (blk_cell BK120.out 2).trans rfl; have hcz23_3 : w20.cell? ⟨gb120, 3, none⟩ = some (.int .i64 0) := (blk_cell BK120.out 3).trans rfl; have hfz23_0 := blk_frozen BK120.out 0; have hfz23_1 := blk_frozen BK120.out 1; have hfz23_2 := blk_frozen BK120.out 2; have hfz23_3 := blk_frozen BK120.out 3))
            have n0_ : Aside0 (((((w20.setCell ⟨gb120, 0, none⟩ (.int .i64 a1_0)).setCell ⟨gb120, 1, none⟩ (.int .i64 a1_1)).setCell ⟨gb120, 2, none⟩ (.int .i64 a1_2)).setCell ⟨gb120, 3, none⟩ (.int .i64 a1_3)).heap[gb118]? = some (.cells #[.int .i64 a0_0, .int .i64 a0_1, .int .i64 a0_2, .int .i64 a0_3, .int .i64 a0_4, .int .i64 a0_5, .int .i64 a0_6] 29 (0, 0))) := ⟨by (with_reducible repeat (first | refine blk_drewN ?_ _ | refine blk_drew ?_ | refine blk_alloc ?_ _)); refine blk_far ?_ NB118_120.out _; (with_reducible repeat (first | refine blk_drewN ?_ _ | refine blk_drew ?_ | refine blk_alloc ?_ _)); refine blk_far ?_ NB118_120.out _; (with_reducible repeat (first | refine blk_drewN ?_ _ | refine blk_drew ?_ | refine blk_alloc ?_ _)); refine blk_far ?_ NB118_120.out _; (with_reducible repeat (first | refine blk_drewN ?_ _ | refine blk_drew ?_ | refine blk_alloc ?_ _)); refine blk_far ?_ NB118_120.out _; (with_reducible repeat (first | refine blk_drewN ?_ _ | refine blk_drew ?_ | refine blk_alloc ?_ _)); exact BK118.out⟩
            have n1_ : Aside0 (((((w20.setCell ⟨gb120, 0, none⟩ (.int .i64 a1_0)).setCell ⟨gb120, 1, none⟩ (.int .i64 a1_1)).setCell ⟨gb120, 2, none⟩ (.int .i64 a1_2)).setCell ⟨gb120, 3, none⟩ (.int .i64 a1_3)).heap[gb119]? = some (.cells #[.int .i64 a1_0, .int .i64 a1_1, .int .i64 a1_2, .int .i64 a1_3] 53 (0, 0))) := ⟨by (with_reducible repeat (first | refine blk_drewN ?_ _ | refine blk_drew ?_ | refine blk_alloc ?_ _)); refine blk_far ?_ NB119_120.out _; (with_reducible repeat (first | refine blk_drewN ?_ _ | refine blk_drew ?_ | refine blk_alloc ?_ _)); refine blk_far ?_ NB119_120.out _; (with_reducible repeat (first | refine blk_drewN ?_ _ | refine blk_drew ?_ | refine blk_alloc ?_ _)); refine blk_far ?_ NB119_120.out _; (with_reducible repeat (first | refine blk_drewN ?_ _ | refine blk_drew ?_ | refine blk_alloc ?_ _)); refine blk_far ?_ NB119_120.out _; (with_reducible repeat (first | refine blk_drewN ?_ _ | refine blk_drew ?_ | refine blk_alloc ?_ _)); exact BK119.out⟩
            have n2_ : Aside0 (((((w20.setCell ⟨gb120, 0, none⟩ (.int .i64 a1_0)).setCell ⟨gb120, 1, none⟩ (.int .i64 a1_1)).setCell ⟨gb120, 2, none⟩ (.int .i64 a1_2)).setCell ⟨gb120, 3, none⟩ (.int .i64 a1_3)).heap[gb120]? = some (.cells #[.int .i64 a1_0, .int .i64 a1_1, .int .i64 a1_2, .int .i64 a1_3] 54 (0, 0))) := ⟨by (with_reducible repeat (first | refine blk_drewN ?_ _ | refine blk_drew ?_ | refine blk_alloc ?_ _)); refine blk_put (cs := #[.int .i64 a1_0, .int .i64 a1_1, .int .i64 a1_2, .int .i64 0]) ?_ 3 _ rfl; (with_reducible repeat (first | refine blk_drewN ?_ _ | refine blk_drew ?_ | refine blk_alloc ?_ _)); refine blk_put (cs := #[.int .i64 a1_0, .int .i64 a1_1, .int .i64 0, .int .i64 0]) ?_ 2 _ rfl; (with_reducible repeat (first | refine blk_drewN ?_ _ | refine blk_drew ?_ | refine blk_alloc ?_ _)); refine blk_put (cs := #[.int .i64 a1_0, .int .i64 0, .int .i64 0, .int .i64 0]) ?_ 1 _ rfl; (with_reducible repeat (first | refine blk_drewN ?_ _ | refine blk_drew ?_ | refine blk_alloc ?_ _)); refine blk_put (cs := #[.int .i64 0, .int .i64 0, .int .i64 0, .int .i64 0]) ?_ 0 _ rfl; (with_reducible repeat (first | refine blk_drewN ?_ _ | refine blk_drew ?_ | refine blk_alloc ?_ _)); exact BK120.out⟩
            have n3_ : Aside0 (Below w.heap.size w ((((w20.setCell ⟨gb120, 0, none⟩ (.int .i64 a1_0)).setCell ⟨gb120, 1, none⟩ (.int .i64 a1_1)).setCell ⟨gb120, 2, none⟩ (.int .i64 a1_2)).setCell ⟨gb120, 3, none⟩ (.int .i64 a1_3))) := ⟨by repeat (first | (with_reducible first | exact HB.out | apply below_alloc | apply pw_below_drewN | apply below_drew1 | refine below_set ?_ GE118.out | refine below_set ?_ GE119.out | refine below_set ?_ GE120.out) | exact HB.out)⟩
            (try clear BK118)
            (try clear BK119)
            (try clear BK120)
            (try clear HB)
            generalize ((((w20.setCell ⟨gb120, 0, none⟩ (.int .i64 a1_0)).setCell ⟨gb120, 1, none⟩ (.int .i64 a1_1)).setCell ⟨gb120, 2, none⟩ (.int .i64 a1_2)).setCell ⟨gb120, 3, none⟩ (.int .i64 a1_3)) = w24 at n0_ n1_ n2_ n3_ ⊢
            have BK118 := n0_
            have BK119 := n1_
            have BK120 := n2_
            have HB := n3_
            clear n0_ n1_ n2_ n3_
            have n0_ := Aside0.mk (blk_drew BK118.out)
            have n1_ := Aside0.mk (blk_drew BK119.out)
            have n2_ := Aside0.mk (blk_drew BK120.out)
            have n3_ := Aside0.mk (below_drew1 HB.out)
            clear BK118
            clear BK119
            clear BK120
            clear HB
            have BK118 := n0_
            have BK119 := n1_
            have BK120 := n2_
            have HB := n3_
            clear n0_ n1_ n2_ n3_
            refine start_ (n := 16) (S := fun w' => w'.cell? ⟨gb118, 0, none⟩ = some (.int .i64 a0_0) ∧ w'.cell? ⟨gb118, 1, none⟩ = some (.int .i64 a0_1) ∧ w'.cell? ⟨gb118, 2, none⟩ = some (.int .i64 a0_2) ∧ w'.cell? ⟨gb118, 3, none⟩ = some (.int .i64 a0_3) ∧ w'.cell? ⟨gb118, 4, none⟩ = some (.int .i64 a0_4) ∧ w'.cell? ⟨gb118, 5, none⟩ = some (.int .i64 a0_5) ∧ w'.cell? ⟨gb118, 6, none⟩ = some (.int .i64 a0_6) ∧ w'.cell? ⟨gb119, 0, none⟩ = some (.int .i64 a1_0) ∧ w'.cell? ⟨gb119, 1, none⟩ = some (.int .i64 a1_1) ∧ w'.cell? ⟨gb119, 2, none⟩ = some (.int .i64 a1_2) ∧ w'.cell? ⟨gb119, 3, none⟩ = some (.int .i64 a1_3) ∧ w'.cell? ⟨gb120, 0, none⟩ = some (.int .i64 a1_0) ∧ w'.cell? ⟨gb120, 1, none⟩ = some (.int .i64 a1_1) ∧ w'.cell? ⟨gb120, 2, none⟩ = some (.int .i64 a1_2) ∧ w'.cell? ⟨gb120, 3, none⟩ = some (.int .i64 a1_3)) (ds := []) #[false, false, false, false, false, false, false, false, false, false, false, false, false, false, false, false] (by kernel_rfl) rfl rfl ⟨(blk_cell BK118.out 0).trans rfl, (blk_cell BK118.out 1).trans rfl, (blk_cell BK118.out 2).trans rfl, (blk_cell BK118.out 3).trans rfl, (blk_cell BK118.out 4).trans rfl, (blk_cell BK118.out 5).trans rfl, (blk_cell BK118.out 6).trans rfl, (blk_cell BK119.out 0).trans rfl, (blk_cell BK119.out 1).trans rfl, (blk_cell BK119.out 2).trans rfl, (blk_cell BK119.out 3).trans rfl, (blk_cell BK120.out 0).trans rfl, (blk_cell BK120.out 1).trans rfl, (blk_cell BK120.out 2).trans rfl, (blk_cell BK120.out 3).trans rfl⟩ (fun hHeld => ?_); refine with_tabW beguinagelaw22_QuotaAll.tab2 beguinagelaw22_QuotaAll.bits2 (fun HT_ HW_ => ?_)
            generalize w24.drew = w25 at BK118 BK119 BK120 HB hHeld ⊢
            refine pure_ (i := 2) (N := some 25) (v := ?_) (a' := ?_) #[false, false, true, false, false, false, false, false, false, false, false, false, false, false, false, false] rfl rfl (any_of HT_.out (by kernel_rfl)) (fun _ _ _ h => h) (Or.inl ⟨by rfl, ?_⟩) ?_ ?_
            rotate_left
            · intro w'
              go_simp
              with_reducible rfl
            rotate_left
            · simp only [Act.put, List.setIfInBounds_toArray, List.set_cons_zero, List.set_cons_succ, i64_w, i32_w]
              rfl
            refine pure_ (i := 3) (N := some 26) (v := ?_) (a' := ?_) #[false, false, true, true, false, false, false, false, false, false, false, false, false, false, false, false] rfl rfl (any_of HT_.out (by kernel_rfl)) (fun _ _ _ h => h) (Or.inl ⟨by rfl, ?_⟩) ?_ ?_
            rotate_left
            · intro w'
              go_simp
              with_reducible rfl
            rotate_left
            · simp only [Act.put, List.setIfInBounds_toArray, List.set_cons_zero, List.set_cons_succ, i64_w, i32_w]
              rfl
            refine pure_ (i := 4) (N := some 27) (v := ?_) (a' := ?_) #[false, false, true, true, true, false, false, false, false, false, false, false, false, false, false, false] rfl rfl (any_of HT_.out (by kernel_rfl)) (fun _ _ _ h => h) (Or.inl ⟨by rfl, ?_⟩) ?_ ?_
            rotate_left
            · intro w'
              go_simp
              with_reducible rfl
            rotate_left
            · simp only [Act.put, List.setIfInBounds_toArray, List.set_cons_zero, List.set_cons_succ, i64_w, i32_w]
              rfl
            refine pure_ (i := 8) (N := some 31) (v := ?_) (a' := ?_) #[false, false, true, true, true, false, false, false, true, false, false, false, false, false, false, false] rfl rfl (any_of HT_.out (by kernel_rfl)) (fun _ _ _ h => h) (Or.inl ⟨by rfl, ?_⟩) ?_ ?_
            rotate_left
            · intro w'
              go_simp
              with_reducible rfl
            rotate_left
            · simp only [Act.put, List.setIfInBounds_toArray, List.set_cons_zero, List.set_cons_succ, i64_w, i32_w]
              rfl
            refine pure_ (i := 9) (N := some 32) (v := ?_) (a' := ?_) #[false, false, true, true, true, false, false, false, true, true, false, false, false, false, false, false] rfl rfl (any_of HT_.out (by kernel_rfl)) (fun _ _ _ h => h) (Or.inl ⟨by rfl, ?_⟩) ?_ ?_
            rotate_left
            · intro w'
              go_simp
              with_reducible rfl
            rotate_left
            · simp only [Act.put, List.setIfInBounds_toArray, List.set_cons_zero, List.set_cons_succ, i64_w, i32_w]
              rfl
            refine pure_ (i := 10) (N := some 33) (v := ?_) (a' := ?_) #[false, false, true, true, true, false, false, false, true, true, true, false, false, false, false, false] rfl rfl (any_of HT_.out (by kernel_rfl)) (fun _ _ _ h => h) (Or.inl ⟨by rfl, ?_⟩) ?_ ?_
            rotate_left
            · intro w'
              go_simp
              with_reducible rfl
            rotate_left
            · simp only [Act.put, List.setIfInBounds_toArray, List.set_cons_zero, List.set_cons_succ, i64_w, i32_w]
              rfl
            refine take_ (i := 0) (N := some 23) (v := ?_) (a' := ?_) #[true, false, true, true, true, false, false, false, true, true, true, false, false, false, false, false] rfl rfl (take_ofW HT_.out HW_.out (by kernel_rfl)) (fun _ _ _ h => h) (Or.inl ⟨by rfl, ?_⟩) hHeld ?_ ?_
            rotate_left
            · rintro w' ⟨s0, s1, s2, s3, s4, s5, s6, s7, s8, s9, s10, s11, s12, s13, s14⟩
              go_simp
              with_reducible rfl
            rotate_left
            · simp only [Act.put, List.setIfInBounds_toArray, List.set_cons_zero, List.set_cons_succ, i64_w, i32_w]
              rfl
            refine take_ (i := 1) (N := some 24) (v := ?_) (a' := ?_) #[true, true, true, true, true, false, false, false, true, true, true, false, false, false, false, false] rfl rfl (take_ofW HT_.out HW_.out (by kernel_rfl)) (fun _ _ _ h => h) (Or.inl ⟨by rfl, ?_⟩) hHeld ?_ ?_
            rotate_left
            · rintro w' ⟨s0, s1, s2, s3, s4, s5, s6, s7, s8, s9, s10, s11, s12, s13, s14⟩
              go_simp
              with_reducible rfl
            rotate_left
            · simp only [Act.put, List.setIfInBounds_toArray, List.set_cons_zero, List.set_cons_succ, i64_w, i32_w]
              rfl
            refine take_ (i := 6) (N := some 29) (v := ?_) (a' := ?_) #[true, true, true, true, true, false, true, false, true, true, true, false, false, false, false, false] rfl rfl (take_ofW HT_.out HW_.out (by kernel_rfl)) (fun _ _ _ h => h) (Or.inl ⟨by rfl, ?_⟩) hHeld ?_ ?_
            rotate_left
            · rintro w' ⟨s0, s1, s2, s3, s4, s5, s6, s7, s8, s9, s10, s11, s12, s13, s14⟩
              go_simp
              with_reducible rfl
            rotate_left
            · simp only [Act.put, List.setIfInBounds_toArray, List.set_cons_zero, List.set_cons_succ, i64_w, i32_w]
              rfl
            refine take_ (i := 7) (N := some 30) (v := ?_) (a' := ?_) #[true, true, true, true, true, false, true, true, true, true, true, false, false, false, false, false] rfl rfl (take_ofW HT_.out HW_.out (by kernel_rfl)) (fun _ _ _ h => h) (Or.inl ⟨by rfl, ?_⟩) hHeld ?_ ?_
            rotate_left
            · rintro w' ⟨s0, s1, s2, s3, s4, s5, s6, s7, s8, s9, s10, s11, s12, s13, s14⟩
              go_simp
              with_reducible rfl
            rotate_left
            · simp only [Act.put, List.setIfInBounds_toArray, List.set_cons_zero, List.set_cons_succ, i64_w, i32_w]
              rfl
            refine join_ (σ := Nat × Nat) 2 #[true, true, true, true, true, true, true, true, true, true, true, true, true, true, false, false] (fun s_ => [(28, .agg #[.int .i64 t121, .int .i64 t122, .int .i64 t123, .int .i64 t124]), (34, .agg #[.int .i64 t125, .int .i64 t126, .int .i64 t127, .int .i64 t128]), (12, .pointer (some ⟨s_.1, 0, none⟩)), (13, .pointer (some ⟨s_.2, 0, none⟩))]) (fun s_ w' => (w'.cell? ⟨gb118, 0, none⟩ = some (.int .i64 a0_0) ∧ w'.cell? ⟨gb118, 1, none⟩ = some (.int .i64 a0_1) ∧ w'.cell? ⟨gb118, 2, none⟩ = some (.int .i64 a0_2) ∧ w'.cell? ⟨gb118, 3, none⟩ = some (.int .i64 a0_3) ∧ w'.cell? ⟨gb118, 4, none⟩ = some (.int .i64 a0_4) ∧ w'.cell? ⟨gb118, 5, none⟩ = some (.int .i64 a0_5) ∧ w'.cell? ⟨gb118, 6, none⟩ = some (.int .i64 a0_6) ∧ w'.cell? ⟨gb119, 0, none⟩ = some (.int .i64 a1_0) ∧ w'.cell? ⟨gb119, 1, none⟩ = some (.int .i64 a1_1) ∧ w'.cell? ⟨gb119, 2, none⟩ = some (.int .i64 a1_2) ∧ w'.cell? ⟨gb119, 3, none⟩ = some (.int .i64 a1_3) ∧ w'.cell? ⟨gb120, 0, none⟩ = some (.int .i64 a1_0) ∧ w'.cell? ⟨gb120, 1, none⟩ = some (.int .i64 a1_1) ∧ w'.cell? ⟨gb120, 2, none⟩ = some (.int .i64 a1_2) ∧ w'.cell? ⟨gb120, 3, none⟩ = some (.int .i64 a1_3)) ∧ (w'.heap[gb118]? = some (.cells #[.int .i64 a0_0, .int .i64 a0_1, .int .i64 a0_2, .int .i64 a0_3, .int .i64 a0_4, .int .i64 a0_5, .int .i64 a0_6] 29 (0, 0))) ∧ (w'.heap[gb119]? = some (.cells #[.int .i64 a1_0, .int .i64 a1_1, .int .i64 a1_2, .int .i64 a1_3] 53 (0, 0))) ∧ (w'.heap[gb120]? = some (.cells #[.int .i64 a1_0, .int .i64 a1_1, .int .i64 a1_2, .int .i64 a1_3] 54 (0, 0))) ∧ (w'.heap[s_.1]? = some (.cells #[.int .i64 0, .int .i64 0, .int .i64 0, .int .i64 0] 53 (0, 0))) ∧ (w'.heap[s_.2]? = some (.cells #[.int .i64 0, .int .i64 0, .int .i64 0, .int .i64 0] 54 (0, 0))) ∧ (w.heap.size ≤ s_.1) ∧ (w.heap.size ≤ s_.1) ∧ (gb118 ≠ s_.1) ∧ (s_.1 ≠ gb118) ∧ (gb119 ≠ s_.1) ∧ (s_.1 ≠ gb119) ∧ (gb120 ≠ s_.1) ∧ (s_.1 ≠ gb120) ∧ (s_.2 ≠ s_.1) ∧ (s_.1 ≠ s_.2) ∧ (w.heap.size ≤ s_.2) ∧ (w.heap.size ≤ s_.2) ∧ (gb118 ≠ s_.2) ∧ (s_.2 ≠ gb118) ∧ (gb119 ≠ s_.2) ∧ (s_.2 ≠ gb119) ∧ (gb120 ≠ s_.2) ∧ (s_.2 ≠ gb120) ∧ (Below w.heap.size w w')) ?_ ?_
            rotate_left
            · intro hJ5_11_12_13
              refine join_ (σ := Nat) 3 #[true, true, true, true, true, true, true, true, true, true, true, true, true, false, false, false] (fun s_ => [(28, .agg #[.int .i64 t121, .int .i64 t122, .int .i64 t123, .int .i64 t124]), (34, .agg #[.int .i64 t125, .int .i64 t126, .int .i64 t127, .int .i64 t128]), (12, .pointer (some ⟨s_, 0, none⟩))]) (fun s_ w' => (w'.cell? ⟨gb118, 0, none⟩ = some (.int .i64 a0_0) ∧ w'.cell? ⟨gb118, 1, none⟩ = some (.int .i64 a0_1) ∧ w'.cell? ⟨gb118, 2, none⟩ = some (.int .i64 a0_2) ∧ w'.cell? ⟨gb118, 3, none⟩ = some (.int .i64 a0_3) ∧ w'.cell? ⟨gb118, 4, none⟩ = some (.int .i64 a0_4) ∧ w'.cell? ⟨gb118, 5, none⟩ = some (.int .i64 a0_5) ∧ w'.cell? ⟨gb118, 6, none⟩ = some (.int .i64 a0_6) ∧ w'.cell? ⟨gb119, 0, none⟩ = some (.int .i64 a1_0) ∧ w'.cell? ⟨gb119, 1, none⟩ = some (.int .i64 a1_1) ∧ w'.cell? ⟨gb119, 2, none⟩ = some (.int .i64 a1_2) ∧ w'.cell? ⟨gb119, 3, none⟩ = some (.int .i64 a1_3) ∧ w'.cell? ⟨gb120, 0, none⟩ = some (.int .i64 a1_0) ∧ w'.cell? ⟨gb120, 1, none⟩ = some (.int .i64 a1_1) ∧ w'.cell? ⟨gb120, 2, none⟩ = some (.int .i64 a1_2) ∧ w'.cell? ⟨gb120, 3, none⟩ = some (.int .i64 a1_3)) ∧ (w'.heap[gb118]? = some (.cells #[.int .i64 a0_0, .int .i64 a0_1, .int .i64 a0_2, .int .i64 a0_3, .int .i64 a0_4, .int .i64 a0_5, .int .i64 a0_6] 29 (0, 0))) ∧ (w'.heap[gb119]? = some (.cells #[.int .i64 a1_0, .int .i64 a1_1, .int .i64 a1_2, .int .i64 a1_3] 53 (0, 0))) ∧ (w'.heap[gb120]? = some (.cells #[.int .i64 a1_0, .int .i64 a1_1, .int .i64 a1_2, .int .i64 a1_3] 54 (0, 0))) ∧ (w'.heap[s_]? = some (.cells #[.int .i64 0, .int .i64 0, .int .i64 0, .int .i64 0] 53 (0, 0))) ∧ (w.heap.size ≤ s_) ∧ (w.heap.size ≤ s_) ∧ (gb118 ≠ s_) ∧ (s_ ≠ gb118) ∧ (gb119 ≠ s_) ∧ (s_ ≠ gb119) ∧ (gb120 ≠ s_) ∧ (s_ ≠ gb120) ∧ (Below w.heap.size w w')) ?_ ?_
              rotate_left
              · intro hJ5_11_12
                refine join_ (σ := Nat) 3 #[true, true, true, true, true, true, true, true, true, true, true, true, false, true, false, false] (fun s_ => [(28, .agg #[.int .i64 t121, .int .i64 t122, .int .i64 t123, .int .i64 t124]), (34, .agg #[.int .i64 t125, .int .i64 t126, .int .i64 t127, .int .i64 t128]), (13, .pointer (some ⟨s_, 0, none⟩))]) (fun s_ w' => (w'.cell? ⟨gb118, 0, none⟩ = some (.int .i64 a0_0) ∧ w'.cell? ⟨gb118, 1, none⟩ = some (.int .i64 a0_1) ∧ w'.cell? ⟨gb118, 2, none⟩ = some (.int .i64 a0_2) ∧ w'.cell? ⟨gb118, 3, none⟩ = some (.int .i64 a0_3) ∧ w'.cell? ⟨gb118, 4, none⟩ = some (.int .i64 a0_4) ∧ w'.cell? ⟨gb118, 5, none⟩ = some (.int .i64 a0_5) ∧ w'.cell? ⟨gb118, 6, none⟩ = some (.int .i64 a0_6) ∧ w'.cell? ⟨gb119, 0, none⟩ = some (.int .i64 a1_0) ∧ w'.cell? ⟨gb119, 1, none⟩ = some (.int .i64 a1_1) ∧ w'.cell? ⟨gb119, 2, none⟩ = some (.int .i64 a1_2) ∧ w'.cell? ⟨gb119, 3, none⟩ = some (.int .i64 a1_3) ∧ w'.cell? ⟨gb120, 0, none⟩ = some (.int .i64 a1_0) ∧ w'.cell? ⟨gb120, 1, none⟩ = some (.int .i64 a1_1) ∧ w'.cell? ⟨gb120, 2, none⟩ = some (.int .i64 a1_2) ∧ w'.cell? ⟨gb120, 3, none⟩ = some (.int .i64 a1_3)) ∧ (w'.heap[gb118]? = some (.cells #[.int .i64 a0_0, .int .i64 a0_1, .int .i64 a0_2, .int .i64 a0_3, .int .i64 a0_4, .int .i64 a0_5, .int .i64 a0_6] 29 (0, 0))) ∧ (w'.heap[gb119]? = some (.cells #[.int .i64 a1_0, .int .i64 a1_1, .int .i64 a1_2, .int .i64 a1_3] 53 (0, 0))) ∧ (w'.heap[gb120]? = some (.cells #[.int .i64 a1_0, .int .i64 a1_1, .int .i64 a1_2, .int .i64 a1_3] 54 (0, 0))) ∧ (w'.heap[s_]? = some (.cells #[.int .i64 0, .int .i64 0, .int .i64 0, .int .i64 0] 54 (0, 0))) ∧ (w.heap.size ≤ s_) ∧ (w.heap.size ≤ s_) ∧ (gb118 ≠ s_) ∧ (s_ ≠ gb118) ∧ (gb119 ≠ s_) ∧ (s_ ≠ gb119) ∧ (gb120 ≠ s_) ∧ (s_ ≠ gb120) ∧ (Below w.heap.size w w')) ?_ ?_
                rotate_left
                · intro hJ5_11_13
                  refine join_ (σ := Nat × Nat) 3 #[true, true, true, true, true, true, true, true, true, true, true, false, true, true, false, false] (fun s_ => [(28, .agg #[.int .i64 t121, .int .i64 t122, .int .i64 t123, .int .i64 t124]), (12, .pointer (some ⟨s_.1, 0, none⟩)), (13, .pointer (some ⟨s_.2, 0, none⟩))]) (fun s_ w' => (w'.cell? ⟨gb118, 0, none⟩ = some (.int .i64 a0_0) ∧ w'.cell? ⟨gb118, 1, none⟩ = some (.int .i64 a0_1) ∧ w'.cell? ⟨gb118, 2, none⟩ = some (.int .i64 a0_2) ∧ w'.cell? ⟨gb118, 3, none⟩ = some (.int .i64 a0_3) ∧ w'.cell? ⟨gb118, 4, none⟩ = some (.int .i64 a0_4) ∧ w'.cell? ⟨gb118, 5, none⟩ = some (.int .i64 a0_5) ∧ w'.cell? ⟨gb118, 6, none⟩ = some (.int .i64 a0_6) ∧ w'.cell? ⟨gb119, 0, none⟩ = some (.int .i64 a1_0) ∧ w'.cell? ⟨gb119, 1, none⟩ = some (.int .i64 a1_1) ∧ w'.cell? ⟨gb119, 2, none⟩ = some (.int .i64 a1_2) ∧ w'.cell? ⟨gb119, 3, none⟩ = some (.int .i64 a1_3) ∧ w'.cell? ⟨gb120, 0, none⟩ = some (.int .i64 a1_0) ∧ w'.cell? ⟨gb120, 1, none⟩ = some (.int .i64 a1_1) ∧ w'.cell? ⟨gb120, 2, none⟩ = some (.int .i64 a1_2) ∧ w'.cell? ⟨gb120, 3, none⟩ = some (.int .i64 a1_3)) ∧ (w'.heap[gb118]? = some (.cells #[.int .i64 a0_0, .int .i64 a0_1, .int .i64 a0_2, .int .i64 a0_3, .int .i64 a0_4, .int .i64 a0_5, .int .i64 a0_6] 29 (0, 0))) ∧ (w'.heap[gb119]? = some (.cells #[.int .i64 a1_0, .int .i64 a1_1, .int .i64 a1_2, .int .i64 a1_3] 53 (0, 0))) ∧ (w'.heap[gb120]? = some (.cells #[.int .i64 a1_0, .int .i64 a1_1, .int .i64 a1_2, .int .i64 a1_3] 54 (0, 0))) ∧ (w'.heap[s_.1]? = some (.cells #[.int .i64 0, .int .i64 0, .int .i64 0, .int .i64 0] 53 (0, 0))) ∧ (w'.heap[s_.2]? = some (.cells #[.int .i64 0, .int .i64 0, .int .i64 0, .int .i64 0] 54 (0, 0))) ∧ (w.heap.size ≤ s_.1) ∧ (w.heap.size ≤ s_.1) ∧ (gb118 ≠ s_.1) ∧ (s_.1 ≠ gb118) ∧ (gb119 ≠ s_.1) ∧ (s_.1 ≠ gb119) ∧ (gb120 ≠ s_.1) ∧ (s_.1 ≠ gb120) ∧ (s_.2 ≠ s_.1) ∧ (s_.1 ≠ s_.2) ∧ (w.heap.size ≤ s_.2) ∧ (w.heap.size ≤ s_.2) ∧ (gb118 ≠ s_.2) ∧ (s_.2 ≠ gb118) ∧ (gb119 ≠ s_.2) ∧ (s_.2 ≠ gb119) ∧ (gb120 ≠ s_.2) ∧ (s_.2 ≠ gb120) ∧ (Below w.heap.size w w')) ?_ ?_
                  rotate_left
                  · intro hJ5_12_13
                    refine join_ (σ := Unit) 4 #[true, true, true, true, true, true, true, true, true, true, true, true, false, false, false, false] (fun s_ => [(28, .agg #[.int .i64 t121, .int .i64 t122, .int .i64 t123, .int .i64 t124]), (34, .agg #[.int .i64 t125, .int .i64 t126, .int .i64 t127, .int .i64 t128])]) (fun s_ w' => (w'.cell? ⟨gb118, 0, none⟩ = some (.int .i64 a0_0) ∧ w'.cell? ⟨gb118, 1, none⟩ = some (.int .i64 a0_1) ∧ w'.cell? ⟨gb118, 2, none⟩ = some (.int .i64 a0_2) ∧ w'.cell? ⟨gb118, 3, none⟩ = some (.int .i64 a0_3) ∧ w'.cell? ⟨gb118, 4, none⟩ = some (.int .i64 a0_4) ∧ w'.cell? ⟨gb118, 5, none⟩ = some (.int .i64 a0_5) ∧ w'.cell? ⟨gb118, 6, none⟩ = some (.int .i64 a0_6) ∧ w'.cell? ⟨gb119, 0, none⟩ = some (.int .i64 a1_0) ∧ w'.cell? ⟨gb119, 1, none⟩ = some (.int .i64 a1_1) ∧ w'.cell? ⟨gb119, 2, none⟩ = some (.int .i64 a1_2) ∧ w'.cell? ⟨gb119, 3, none⟩ = some (.int .i64 a1_3) ∧ w'.cell? ⟨gb120, 0, none⟩ = some (.int .i64 a1_0) ∧ w'.cell? ⟨gb120, 1, none⟩ = some (.int .i64 a1_1) ∧ w'.cell? ⟨gb120, 2, none⟩ = some (.int .i64 a1_2) ∧ w'.cell? ⟨gb120, 3, none⟩ = some (.int .i64 a1_3)) ∧ (w'.heap[gb118]? = some (.cells #[.int .i64 a0_0, .int .i64 a0_1, .int .i64 a0_2, .int .i64 a0_3, .int .i64 a0_4, .int .i64 a0_5, .int .i64 a0_6] 29 (0, 0))) ∧ (w'.heap[gb119]? = some (.cells #[.int .i64 a1_0, .int .i64 a1_1, .int .i64 a1_2, .int .i64 a1_3] 53 (0, 0))) ∧ (w'.heap[gb120]? = some (.cells #[.int .i64 a1_0, .int .i64 a1_1, .int .i64 a1_2, .int .i64 a1_3] 54 (0, 0))) ∧ (Below w.heap.size w w')) ?_ ?_
                    rotate_left
                    · intro hJ5_11
                      refine join_ (σ := Nat) 4 #[true, true, true, true, true, true, true, true, true, true, true, false, true, false, false, false] (fun s_ => [(28, .agg #[.int .i64 t121, .int .i64 t122, .int .i64 t123, .int .i64 t124]), (12, .pointer (some ⟨s_, 0, none⟩))]) (fun s_ w' => (w'.cell? ⟨gb118, 0, none⟩ = some (.int .i64 a0_0) ∧ w'.cell? ⟨gb118, 1, none⟩ = some (.int .i64 a0_1) ∧ w'.cell? ⟨gb118, 2, none⟩ = some (.int .i64 a0_2) ∧ w'.cell? ⟨gb118, 3, none⟩ = some (.int .i64 a0_3) ∧ w'.cell? ⟨gb118, 4, none⟩ = some (.int .i64 a0_4) ∧ w'.cell? ⟨gb118, 5, none⟩ = some (.int .i64 a0_5) ∧ w'.cell? ⟨gb118, 6, none⟩ = some (.int .i64 a0_6) ∧ w'.cell? ⟨gb119, 0, none⟩ = some (.int .i64 a1_0) ∧ w'.cell? ⟨gb119, 1, none⟩ = some (.int .i64 a1_1) ∧ w'.cell? ⟨gb119, 2, none⟩ = some (.int .i64 a1_2) ∧ w'.cell? ⟨gb119, 3, none⟩ = some (.int .i64 a1_3) ∧ w'.cell? ⟨gb120, 0, none⟩ = some (.int .i64 a1_0) ∧ w'.cell? ⟨gb120, 1, none⟩ = some (.int .i64 a1_1) ∧ w'.cell? ⟨gb120, 2, none⟩ = some (.int .i64 a1_2) ∧ w'.cell? ⟨gb120, 3, none⟩ = some (.int .i64 a1_3)) ∧ (w'.heap[gb118]? = some (.cells #[.int .i64 a0_0, .int .i64 a0_1, .int .i64 a0_2, .int .i64 a0_3, .int .i64 a0_4, .int .i64 a0_5, .int .i64 a0_6] 29 (0, 0))) ∧ (w'.heap[gb119]? = some (.cells #[.int .i64 a1_0, .int .i64 a1_1, .int .i64 a1_2, .int .i64 a1_3] 53 (0, 0))) ∧ (w'.heap[gb120]? = some (.cells #[.int .i64 a1_0, .int .i64 a1_1, .int .i64 a1_2, .int .i64 a1_3] 54 (0, 0))) ∧ (w'.heap[s_]? = some (.cells #[.int .i64 0, .int .i64 0, .int .i64 0, .int .i64 0] 53 (0, 0))) ∧ (w.heap.size ≤ s_) ∧ (w.heap.size ≤ s_) ∧ (gb118 ≠ s_) ∧ (s_ ≠ gb118) ∧ (gb119 ≠ s_) ∧ (s_ ≠ gb119) ∧ (gb120 ≠ s_) ∧ (s_ ≠ gb120) ∧ (Below w.heap.size w w')) ?_ ?_
                      rotate_left
                      · intro hJ5_12
                        refine join_ (σ := Nat) 4 #[true, true, true, true, true, true, true, true, true, true, true, false, false, true, false, false] (fun s_ => [(28, .agg #[.int .i64 t121, .int .i64 t122, .int .i64 t123, .int .i64 t124]), (13, .pointer (some ⟨s_, 0, none⟩))]) (fun s_ w' => (w'.cell? ⟨gb118, 0, none⟩ = some (.int .i64 a0_0) ∧ w'.cell? ⟨gb118, 1, none⟩ = some (.int .i64 a0_1) ∧ w'.cell? ⟨gb118, 2, none⟩ = some (.int .i64 a0_2) ∧ w'.cell? ⟨gb118, 3, none⟩ = some (.int .i64 a0_3) ∧ w'.cell? ⟨gb118, 4, none⟩ = some (.int .i64 a0_4) ∧ w'.cell? ⟨gb118, 5, none⟩ = some (.int .i64 a0_5) ∧ w'.cell? ⟨gb118, 6, none⟩ = some (.int .i64 a0_6) ∧ w'.cell? ⟨gb119, 0, none⟩ = some (.int .i64 a1_0) ∧ w'.cell? ⟨gb119, 1, none⟩ = some (.int .i64 a1_1) ∧ w'.cell? ⟨gb119, 2, none⟩ = some (.int .i64 a1_2) ∧ w'.cell? ⟨gb119, 3, none⟩ = some (.int .i64 a1_3) ∧ w'.cell? ⟨gb120, 0, none⟩ = some (.int .i64 a1_0) ∧ w'.cell? ⟨gb120, 1, none⟩ = some (.int .i64 a1_1) ∧ w'.cell? ⟨gb120, 2, none⟩ = some (.int .i64 a1_2) ∧ w'.cell? ⟨gb120, 3, none⟩ = some (.int .i64 a1_3)) ∧ (w'.heap[gb118]? = some (.cells #[.int .i64 a0_0, .int .i64 a0_1, .int .i64 a0_2, .int .i64 a0_3, .int .i64 a0_4, .int .i64 a0_5, .int .i64 a0_6] 29 (0, 0))) ∧ (w'.heap[gb119]? = some (.cells #[.int .i64 a1_0, .int .i64 a1_1, .int .i64 a1_2, .int .i64 a1_3] 53 (0, 0))) ∧ (w'.heap[gb120]? = some (.cells #[.int .i64 a1_0, .int .i64 a1_1, .int .i64 a1_2, .int .i64 a1_3] 54 (0, 0))) ∧ (w'.heap[s_]? = some (.cells #[.int .i64 0, .int .i64 0, .int .i64 0, .int .i64 0] 54 (0, 0))) ∧ (w.heap.size ≤ s_) ∧ (w.heap.size ≤ s_) ∧ (gb118 ≠ s_) ∧ (s_ ≠ gb118) ∧ (gb119 ≠ s_) ∧ (s_ ≠ gb119) ∧ (gb120 ≠ s_) ∧ (s_ ≠ gb120) ∧ (Below w.heap.size w w')) ?_ ?_
                        rotate_left
                        · intro hJ5_13
                          refine join_ (σ := Nat × Nat) 4 #[true, true, true, true, true, false, true, true, true, true, true, false, true, true, false, false] (fun s_ => [(12, .pointer (some ⟨s_.1, 0, none⟩)), (13, .pointer (some ⟨s_.2, 0, none⟩))]) (fun s_ w' => (w'.cell? ⟨gb118, 0, none⟩ = some (.int .i64 a0_0) ∧ w'.cell? ⟨gb118, 1, none⟩ = some (.int .i64 a0_1) ∧ w'.cell? ⟨gb118, 2, none⟩ = some (.int .i64 a0_2) ∧ w'.cell? ⟨gb118, 3, none⟩ = some (.int .i64 a0_3) ∧ w'.cell? ⟨gb118, 4, none⟩ = some (.int .i64 a0_4) ∧ w'.cell? ⟨gb118, 5, none⟩ = some (.int .i64 a0_5) ∧ w'.cell? ⟨gb118, 6, none⟩ = some (.int .i64 a0_6) ∧ w'.cell? ⟨gb119, 0, none⟩ = some (.int .i64 a1_0) ∧ w'.cell? ⟨gb119, 1, none⟩ = some (.int .i64 a1_1) ∧ w'.cell? ⟨gb119, 2, none⟩ = some (.int .i64 a1_2) ∧ w'.cell? ⟨gb119, 3, none⟩ = some (.int .i64 a1_3) ∧ w'.cell? ⟨gb120, 0, none⟩ = some (.int .i64 a1_0) ∧ w'.cell? ⟨gb120, 1, none⟩ = some (.int .i64 a1_1) ∧ w'.cell? ⟨gb120, 2, none⟩ = some (.int .i64 a1_2) ∧ w'.cell? ⟨gb120, 3, none⟩ = some (.int .i64 a1_3)) ∧ (w'.heap[gb118]? = some (.cells #[.int .i64 a0_0, .int .i64 a0_1, .int .i64 a0_2, .int .i64 a0_3, .int .i64 a0_4, .int .i64 a0_5, .int .i64 a0_6] 29 (0, 0))) ∧ (w'.heap[gb119]? = some (.cells #[.int .i64 a1_0, .int .i64 a1_1, .int .i64 a1_2, .int .i64 a1_3] 53 (0, 0))) ∧ (w'.heap[gb120]? = some (.cells #[.int .i64 a1_0, .int .i64 a1_1, .int .i64 a1_2, .int .i64 a1_3] 54 (0, 0))) ∧ (w'.heap[s_.1]? = some (.cells #[.int .i64 0, .int .i64 0, .int .i64 0, .int .i64 0] 53 (0, 0))) ∧ (w'.heap[s_.2]? = some (.cells #[.int .i64 0, .int .i64 0, .int .i64 0, .int .i64 0] 54 (0, 0))) ∧ (w.heap.size ≤ s_.1) ∧ (w.heap.size ≤ s_.1) ∧ (gb118 ≠ s_.1) ∧ (s_.1 ≠ gb118) ∧ (gb119 ≠ s_.1) ∧ (s_.1 ≠ gb119) ∧ (gb120 ≠ s_.1) ∧ (s_.1 ≠ gb120) ∧ (s_.2 ≠ s_.1) ∧ (s_.1 ≠ s_.2) ∧ (w.heap.size ≤ s_.2) ∧ (w.heap.size ≤ s_.2) ∧ (gb118 ≠ s_.2) ∧ (s_.2 ≠ gb118) ∧ (gb119 ≠ s_.2) ∧ (s_.2 ≠ gb119) ∧ (gb120 ≠ s_.2) ∧ (s_.2 ≠ gb120) ∧ (Below w.heap.size w w')) ?_ ?_
                          rotate_left
                          · intro hJ12_13
                            refine join_ (σ := Unit) 5 #[true, true, true, true, true, true, true, true, true, true, true, false, false, false, false, false] (fun s_ => [(28, .agg #[.int .i64 t121, .int .i64 t122, .int .i64 t123, .int .i64 t124])]) (fun s_ w' => (w'.cell? ⟨gb118, 0, none⟩ = some (.int .i64 a0_0) ∧ w'.cell? ⟨gb118, 1, none⟩ = some (.int .i64 a0_1) ∧ w'.cell? ⟨gb118, 2, none⟩ = some (.int .i64 a0_2) ∧ w'.cell? ⟨gb118, 3, none⟩ = some (.int .i64 a0_3) ∧ w'.cell? ⟨gb118, 4, none⟩ = some (.int .i64 a0_4) ∧ w'.cell? ⟨gb118, 5, none⟩ = some (.int .i64 a0_5) ∧ w'.cell? ⟨gb118, 6, none⟩ = some (.int .i64 a0_6) ∧ w'.cell? ⟨gb119, 0, none⟩ = some (.int .i64 a1_0) ∧ w'.cell? ⟨gb119, 1, none⟩ = some (.int .i64 a1_1) ∧ w'.cell? ⟨gb119, 2, none⟩ = some (.int .i64 a1_2) ∧ w'.cell? ⟨gb119, 3, none⟩ = some (.int .i64 a1_3) ∧ w'.cell? ⟨gb120, 0, none⟩ = some (.int .i64 a1_0) ∧ w'.cell? ⟨gb120, 1, none⟩ = some (.int .i64 a1_1) ∧ w'.cell? ⟨gb120, 2, none⟩ = some (.int .i64 a1_2) ∧ w'.cell? ⟨gb120, 3, none⟩ = some (.int .i64 a1_3)) ∧ (w'.heap[gb118]? = some (.cells #[.int .i64 a0_0, .int .i64 a0_1, .int .i64 a0_2, .int .i64 a0_3, .int .i64 a0_4, .int .i64 a0_5, .int .i64 a0_6] 29 (0, 0))) ∧ (w'.heap[gb119]? = some (.cells #[.int .i64 a1_0, .int .i64 a1_1, .int .i64 a1_2, .int .i64 a1_3] 53 (0, 0))) ∧ (w'.heap[gb120]? = some (.cells #[.int .i64 a1_0, .int .i64 a1_1, .int .i64 a1_2, .int .i64 a1_3] 54 (0, 0))) ∧ (Below w.heap.size w w')) ?_ ?_
                            rotate_left
                            · intro hJ5
                              refine join_ (σ := Nat) 5 #[true, true, true, true, true, false, true, true, true, true, true, false, true, false, false, false] (fun s_ => [(12, .pointer (some ⟨s_, 0, none⟩))]) (fun s_ w' => (w'.cell? ⟨gb118, 0, none⟩ = some (.int .i64 a0_0) ∧ w'.cell? ⟨gb118, 1, none⟩ = some (.int .i64 a0_1) ∧ w'.cell? ⟨gb118, 2, none⟩ = some (.int .i64 a0_2) ∧ w'.cell? ⟨gb118, 3, none⟩ = some (.int .i64 a0_3) ∧ w'.cell? ⟨gb118, 4, none⟩ = some (.int .i64 a0_4) ∧ w'.cell? ⟨gb118, 5, none⟩ = some (.int .i64 a0_5) ∧ w'.cell? ⟨gb118, 6, none⟩ = some (.int .i64 a0_6) ∧ w'.cell? ⟨gb119, 0, none⟩ = some (.int .i64 a1_0) ∧ w'.cell? ⟨gb119, 1, none⟩ = some (.int .i64 a1_1) ∧ w'.cell? ⟨gb119, 2, none⟩ = some (.int .i64 a1_2) ∧ w'.cell? ⟨gb119, 3, none⟩ = some (.int .i64 a1_3) ∧ w'.cell? ⟨gb120, 0, none⟩ = some (.int .i64 a1_0) ∧ w'.cell? ⟨gb120, 1, none⟩ = some (.int .i64 a1_1) ∧ w'.cell? ⟨gb120, 2, none⟩ = some (.int .i64 a1_2) ∧ w'.cell? ⟨gb120, 3, none⟩ = some (.int .i64 a1_3)) ∧ (w'.heap[gb118]? = some (.cells #[.int .i64 a0_0, .int .i64 a0_1, .int .i64 a0_2, .int .i64 a0_3, .int .i64 a0_4, .int .i64 a0_5, .int .i64 a0_6] 29 (0, 0))) ∧ (w'.heap[gb119]? = some (.cells #[.int .i64 a1_0, .int .i64 a1_1, .int .i64 a1_2, .int .i64 a1_3] 53 (0, 0))) ∧ (w'.heap[gb120]? = some (.cells #[.int .i64 a1_0, .int .i64 a1_1, .int .i64 a1_2, .int .i64 a1_3] 54 (0, 0))) ∧ (w'.heap[s_]? = some (.cells #[.int .i64 0, .int .i64 0, .int .i64 0, .int .i64 0] 53 (0, 0))) ∧ (w.heap.size ≤ s_) ∧ (w.heap.size ≤ s_) ∧ (gb118 ≠ s_) ∧ (s_ ≠ gb118) ∧ (gb119 ≠ s_) ∧ (s_ ≠ gb119) ∧ (gb120 ≠ s_) ∧ (s_ ≠ gb120) ∧ (Below w.heap.size w w')) ?_ ?_
                              rotate_left
                              · intro hJ12
                                refine join_ (σ := Nat) 5 #[true, true, true, true, true, false, true, true, true, true, true, false, false, true, false, false] (fun s_ => [(13, .pointer (some ⟨s_, 0, none⟩))]) (fun s_ w' => (w'.cell? ⟨gb118, 0, none⟩ = some (.int .i64 a0_0) ∧ w'.cell? ⟨gb118, 1, none⟩ = some (.int .i64 a0_1) ∧ w'.cell? ⟨gb118, 2, none⟩ = some (.int .i64 a0_2) ∧ w'.cell? ⟨gb118, 3, none⟩ = some (.int .i64 a0_3) ∧ w'.cell? ⟨gb118, 4, none⟩ = some (.int .i64 a0_4) ∧ w'.cell? ⟨gb118, 5, none⟩ = some (.int .i64 a0_5) ∧ w'.cell? ⟨gb118, 6, none⟩ = some (.int .i64 a0_6) ∧ w'.cell? ⟨gb119, 0, none⟩ = some (.int .i64 a1_0) ∧ w'.cell? ⟨gb119, 1, none⟩ = some (.int .i64 a1_1) ∧ w'.cell? ⟨gb119, 2, none⟩ = some (.int .i64 a1_2) ∧ w'.cell? ⟨gb119, 3, none⟩ = some (.int .i64 a1_3) ∧ w'.cell? ⟨gb120, 0, none⟩ = some (.int .i64 a1_0) ∧ w'.cell? ⟨gb120, 1, none⟩ = some (.int .i64 a1_1) ∧ w'.cell? ⟨gb120, 2, none⟩ = some (.int .i64 a1_2) ∧ w'.cell? ⟨gb120, 3, none⟩ = some (.int .i64 a1_3)) ∧ (w'.heap[gb118]? = some (.cells #[.int .i64 a0_0, .int .i64 a0_1, .int .i64 a0_2, .int .i64 a0_3, .int .i64 a0_4, .int .i64 a0_5, .int .i64 a0_6] 29 (0, 0))) ∧ (w'.heap[gb119]? = some (.cells #[.int .i64 a1_0, .int .i64 a1_1, .int .i64 a1_2, .int .i64 a1_3] 53 (0, 0))) ∧ (w'.heap[gb120]? = some (.cells #[.int .i64 a1_0, .int .i64 a1_1, .int .i64 a1_2, .int .i64 a1_3] 54 (0, 0))) ∧ (w'.heap[s_]? = some (.cells #[.int .i64 0, .int .i64 0, .int .i64 0, .int .i64 0] 54 (0, 0))) ∧ (w.heap.size ≤ s_) ∧ (w.heap.size ≤ s_) ∧ (gb118 ≠ s_) ∧ (s_ ≠ gb118) ∧ (gb119 ≠ s_) ∧ (s_ ≠ gb119) ∧ (gb120 ≠ s_) ∧ (s_ ≠ gb120) ∧ (Below w.heap.size w w')) ?_ ?_
                                rotate_left
                                · intro hJ13
                                  refine three_ (i := 5) (j := 12) (k := 13) (Ni := some 28) (Nj := some 12) (Nk := some 13) #[true, true, true, true, true, true, true, true, true, true, true, false, false, false, false, false] #[true, true, true, true, true, false, true, true, true, true, true, false, true, false, false, false] #[true, true, true, true, true, false, true, true, true, true, true, false, false, true, false, false] rfl rfl rfl rfl rfl rfl (three_of HT_.out (by kernel_rfl)) (by decide) (by decide) (by decide) (fun K hK => ?_) (fun K hK => ?_) (fun K hK => ?_)
                                  · skip
                                    refine goes_ Try.func27 (by kernel_rfl) rfl #[.agg #[.int .i64 a0_0, .int .i64 a0_1, .int .i64 a0_2, .int .i64 a0_3, .int .i64 a0_4, .int .i64 a0_5, .int .i64 a0_6], .agg #[.int .i64 a1_0, .int .i64 a1_1, .int .i64 a1_2, .int .i64 a1_3], .int .i64 a2, .int .i64 a3, .int .i64 a4] (by rfl) rfl rfl (by (try simp only [List.map_toArray, List.map_cons, List.map_nil]); first | done | rfl | (simp only [List.length_drop, List.length_take]; rfl)) ?_
                                    with_reducible refine (quota_Next.calls a0_0 a0_1 a0_2 a0_3 a0_4 a0_5 a0_6 a1_0 a1_1 a1_2 a1_3 a2 a3 a4 t121 t122 t123 t124 _ A6.out).mono ?_
                                    rintro e w26 ⟨rfl, hb⟩
                                    refine ⟨_, rfl, ?_⟩
                                    have n0_ := Aside0.mk (blk_below (blk_l BK118.out) hb)
                                    have n1_ := Aside0.mk (blk_below (blk_l BK119.out) hb)
                                    have n2_ := Aside0.mk (blk_below (blk_l BK120.out) hb)
                                    have n3_ := Aside0.mk (below_step (by repeat (first | (with_reducible first | exact HB.out | apply below_alloc | apply pw_below_drewN | apply below_drew1 | refine below_set ?_ GE118.out | refine below_set ?_ GE119.out | refine below_set ?_ GE120.out) | exact HB.out)) hb)
                                    clear BK118
                                    clear BK119
                                    clear BK120
                                    clear HB
                                    have BK118 := n0_
                                    have BK119 := n1_
                                    have BK120 := n2_
                                    have HB := n3_
                                    clear n0_ n1_ n2_ n3_
                                    (try clear hb)
                                    (try clear hb2)
                                    (try clear hk)
                                    (try clear hi)
                                    refine hK.out _ _ ⟨(blk_cell BK118.out 0).trans rfl, (blk_cell BK118.out 1).trans rfl, (blk_cell BK118.out 2).trans rfl, (blk_cell BK118.out 3).trans rfl, (blk_cell BK118.out 4).trans rfl, (blk_cell BK118.out 5).trans rfl, (blk_cell BK118.out 6).trans rfl, (blk_cell BK119.out 0).trans rfl, (blk_cell BK119.out 1).trans rfl, (blk_cell BK119.out 2).trans rfl, (blk_cell BK119.out 3).trans rfl, (blk_cell BK120.out 0).trans rfl, (blk_cell BK120.out 1).trans rfl, (blk_cell BK120.out 2).trans rfl, (blk_cell BK120.out 3).trans rfl⟩ (fun hHeld => ?_)
                                    clear hK K
                                    refine norm_ (a' := ?_) ?_ ?_
                                    rotate_left
                                    · show Act.put _ (some 28) _ = _
                                      simp only [Act.put, List.setIfInBounds_toArray, List.set_cons_zero, List.set_cons_succ, i64_w, i32_w]
                                      rfl
                                    exact norm_ (by first | (simp only [putAll, Act.put, List.setIfInBounds_toArray, List.set_cons_zero, List.set_cons_succ]; done) | (simp only [putAll, Act.put, List.setIfInBounds_toArray, List.set_cons_zero, List.set_cons_succ]; rfl)) (hJ5 () _ ⟨hHeld, (blk_l BK118.out), (blk_l BK119.out), (blk_l BK120.out), (by repeat (first | (with_reducible first | exact HB.out | apply below_alloc | apply pw_below_drewN | apply below_drew1 | refine below_set ?_ GE118.out | refine below_set ?_ GE119.out | refine below_set ?_ GE120.out) | exact HB.out))⟩)
                                  · skip
                                    refine box_step ?hg (N := 12) ?hd (cs := #[.int .i64 0, .int .i64 0, .int .i64 0, .int .i64 0]) (t := 53) ?hr ?_; (case hd => rfl); (case hg => rfl); (case hr => first | (go_simp; done) | (go_simp; rfl))
                                    intro gb129 hg w26 hbox hb
                                    have n0_ := Aside0.mk (blk_below (blk_l BK118.out) hb)
                                    have n1_ := Aside0.mk (blk_below (blk_l BK119.out) hb)
                                    have n2_ := Aside0.mk (blk_below (blk_l BK120.out) hb)
                                    have n3_ := Aside0.mk (below_step (by repeat (first | (with_reducible first | exact HB.out | apply below_alloc | apply pw_below_drewN | apply below_drew1 | refine below_set ?_ GE118.out | refine below_set ?_ GE119.out | refine below_set ?_ GE120.out) | exact HB.out)) hb)
                                    have n4_ := Aside0.mk (hbox)
                                    have n5_ := Aside0.mk ((by rw [hg]; exact (below_size (by repeat (first | (with_reducible first | exact HB.out | apply below_alloc | apply pw_below_drewN | apply below_drew1 | refine below_set ?_ GE118.out | refine below_set ?_ GE119.out | refine below_set ?_ GE120.out) | exact HB.out))) : w.heap.size ≤ gb129))
                                    have n6_ := Aside0.mk ((by rw [hg]; exact (below_size (by repeat (first | (with_reducible first | exact HB.out | apply below_alloc | apply pw_below_drewN | apply below_drew1 | refine below_set ?_ GE118.out | refine below_set ?_ GE119.out | refine below_set ?_ GE120.out) | exact HB.out))) : w.heap.size ≤ gb129))
                                    have n7_ := Aside0.mk ((by rw [hg]; exact Nat.ne_of_lt (blk_lt (blk_l BK118.out)) : gb118 ≠ gb129))
                                    have n8_ := Aside0.mk ((by rw [hg]; exact Nat.ne_of_gt (blk_lt (blk_l BK118.out)) : gb129 ≠ gb118))
                                    have n9_ := Aside0.mk ((by rw [hg]; exact Nat.ne_of_lt (blk_lt (blk_l BK119.out)) : gb119 ≠ gb129))
                                    have n10_ := Aside0.mk ((by rw [hg]; exact Nat.ne_of_gt (blk_lt (blk_l BK119.out)) : gb129 ≠ gb119))
                                    have n11_ := Aside0.mk ((by rw [hg]; exact Nat.ne_of_lt (blk_lt (blk_l BK120.out)) : gb120 ≠ gb129))
                                    have n12_ := Aside0.mk ((by rw [hg]; exact Nat.ne_of_gt (blk_lt (blk_l BK120.out)) : gb129 ≠ gb120))
                                    clear BK118
                                    clear BK119
                                    clear BK120
                                    clear HB
                                    have BK118 := n0_
                                    have BK119 := n1_
                                    have BK120 := n2_
                                    have HB := n3_
                                    have BK129 := n4_
                                    have GW129 := n5_
                                    have GE129 := n6_
                                    have NB118_129 := n7_
                                    have NB129_118 := n8_
                                    have NB119_129 := n9_
                                    have NB129_119 := n10_
                                    have NB120_129 := n11_
                                    have NB129_120 := n12_
                                    clear n0_ n1_ n2_ n3_ n4_ n5_ n6_ n7_ n8_ n9_ n10_ n11_ n12_
                                    clear hb hbox hg
                                    refine hK.out _ _ ⟨(blk_cell BK118.out 0).trans rfl, (blk_cell BK118.out 1).trans rfl, (blk_cell BK118.out 2).trans rfl, (blk_cell BK118.out 3).trans rfl, (blk_cell BK118.out 4).trans rfl, (blk_cell BK118.out 5).trans rfl, (blk_cell BK118.out 6).trans rfl, (blk_cell BK119.out 0).trans rfl, (blk_cell BK119.out 1).trans rfl, (blk_cell BK119.out 2).trans rfl, (blk_cell BK119.out 3).trans rfl, (blk_cell BK120.out 0).trans rfl, (blk_cell BK120.out 1).trans rfl, (blk_cell BK120.out 2).trans rfl, (blk_cell BK120.out 3).trans rfl⟩ (fun hHeld => ?_)
                                    clear hK K
                                    refine norm_ (a' := ?_) ?_ ?_
                                    rotate_left
                                    · show Act.put _ (some 12) _ = _
                                      simp only [Act.put, List.setIfInBounds_toArray, List.set_cons_zero, List.set_cons_succ, i64_w, i32_w]
                                      rfl
                                    exact norm_ (by first | (simp only [putAll, Act.put, List.setIfInBounds_toArray, List.set_cons_zero, List.set_cons_succ]; done) | (simp only [putAll, Act.put, List.setIfInBounds_toArray, List.set_cons_zero, List.set_cons_succ]; rfl)) (hJ12 (gb129) _ ⟨hHeld, (blk_l BK118.out), (blk_l BK119.out), (blk_l BK120.out), (blk_l BK129.out), GW129.out, GE129.out, NB118_129.out, NB129_118.out, NB119_129.out, NB129_119.out, NB120_129.out, NB129_120.out, (by repeat (first | (with_reducible first | exact HB.out | apply below_alloc | apply pw_below_drewN | apply below_drew1 | refine below_set ?_ GE118.out | refine below_set ?_ GE119.out | refine below_set ?_ GE120.out | refine below_set ?_ GE129.out) | exact HB.out))⟩)
                                  · skip
                                    refine box_step ?hg (N := 13) ?hd (cs := #[.int .i64 0, .int .i64 0, .int .i64 0, .int .i64 0]) (t := 54) ?hr ?_; (case hd => rfl); (case hg => rfl); (case hr => first | (go_simp; done) | (go_simp; rfl))
                                    intro gb130 hg w26 hbox hb
                                    have n0_ := Aside0.mk (blk_below (blk_l BK118.out) hb)
                                    have n1_ := Aside0.mk (blk_below (blk_l BK119.out) hb)
                                    have n2_ := Aside0.mk (blk_below (blk_l BK120.out) hb)
                                    have n3_ := Aside0.mk (below_step (by repeat (first | (with_reducible first | exact HB.out | apply below_alloc | apply pw_below_drewN | apply below_drew1 | refine below_set ?_ GE118.out | refine below_set ?_ GE119.out | refine below_set ?_ GE120.out) | exact HB.out)) hb)
                                    have n4_ := Aside0.mk (hbox)
                                    have n5_ := Aside0.mk ((by rw [hg]; exact (below_size (by repeat (first | (with_reducible first | exact HB.out | apply below_alloc | apply pw_below_drewN | apply below_drew1 | refine below_set ?_ GE118.out | refine below_set ?_ GE119.out | refine below_set ?_ GE120.out) | exact HB.out))) : w.heap.size ≤ gb130))
                                    have n6_ := Aside0.mk ((by rw [hg]; exact (below_size (by repeat (first | (with_reducible first | exact HB.out | apply below_alloc | apply pw_below_drewN | apply below_drew1 | refine below_set ?_ GE118.out | refine below_set ?_ GE119.out | refine below_set ?_ GE120.out) | exact HB.out))) : w.heap.size ≤ gb130))
                                    have n7_ := Aside0.mk ((by rw [hg]; exact Nat.ne_of_lt (blk_lt (blk_l BK118.out)) : gb118 ≠ gb130))
                                    have n8_ := Aside0.mk ((by rw [hg]; exact Nat.ne_of_gt (blk_lt (blk_l BK118.out)) : gb130 ≠ gb118))
                                    have n9_ := Aside0.mk ((by rw [hg]; exact Nat.ne_of_lt (blk_lt (blk_l BK119.out)) : gb119 ≠ gb130))
                                    have n10_ := Aside0.mk ((by rw [hg]; exact Nat.ne_of_gt (blk_lt (blk_l BK119.out)) : gb130 ≠ gb119))
                                    have n11_ := Aside0.mk ((by rw [hg]; exact Nat.ne_of_lt (blk_lt (blk_l BK120.out)) : gb120 ≠ gb130))
                                    have n12_ := Aside0.mk ((by rw [hg]; exact Nat.ne_of_gt (blk_lt (blk_l BK120.out)) : gb130 ≠ gb120))
                                    clear BK118
                                    clear BK119
                                    clear BK120
                                    clear HB
                                    have BK118 := n0_
                                    have BK119 := n1_
                                    have BK120 := n2_
                                    have HB := n3_
                                    have BK130 := n4_
                                    have GW130 := n5_
                                    have GE130 := n6_
                                    have NB118_130 := n7_
                                    have NB130_118 := n8_
                                    have NB119_130 := n9_
                                    have NB130_119 := n10_
                                    have NB120_130 := n11_
                                    have NB130_120 := n12_
                                    clear n0_ n1_ n2_ n3_ n4_ n5_ n6_ n7_ n8_ n9_ n10_ n11_ n12_
                                    clear hb hbox hg
                                    refine hK.out _ _ ⟨(blk_cell BK118.out 0).trans rfl, (blk_cell BK118.out 1).trans rfl, (blk_cell BK118.out 2).trans rfl, (blk_cell BK118.out 3).trans rfl, (blk_cell BK118.out 4).trans rfl, (blk_cell BK118.out 5).trans rfl, (blk_cell BK118.out 6).trans rfl, (blk_cell BK119.out 0).trans rfl, (blk_cell BK119.out 1).trans rfl, (blk_cell BK119.out 2).trans rfl, (blk_cell BK119.out 3).trans rfl, (blk_cell BK120.out 0).trans rfl, (blk_cell BK120.out 1).trans rfl, (blk_cell BK120.out 2).trans rfl, (blk_cell BK120.out 3).trans rfl⟩ (fun hHeld => ?_)
                                    clear hK K
                                    refine norm_ (a' := ?_) ?_ ?_
                                    rotate_left
                                    · show Act.put _ (some 13) _ = _
                                      simp only [Act.put, List.setIfInBounds_toArray, List.set_cons_zero, List.set_cons_succ, i64_w, i32_w]
                                      rfl
                                    exact norm_ (by first | (simp only [putAll, Act.put, List.setIfInBounds_toArray, List.set_cons_zero, List.set_cons_succ]; done) | (simp only [putAll, Act.put, List.setIfInBounds_toArray, List.set_cons_zero, List.set_cons_succ]; rfl)) (hJ13 (gb130) _ ⟨hHeld, (blk_l BK118.out), (blk_l BK119.out), (blk_l BK120.out), (blk_l BK130.out), GW130.out, GE130.out, NB118_130.out, NB130_118.out, NB119_130.out, NB130_119.out, NB120_130.out, NB130_120.out, (by repeat (first | (with_reducible first | exact HB.out | apply below_alloc | apply pw_below_drewN | apply below_drew1 | refine below_set ?_ GE118.out | refine below_set ?_ GE119.out | refine below_set ?_ GE120.out | refine below_set ?_ GE130.out) | exact HB.out))⟩)
                                · skip
                                  rintro gb130 w27 ⟨hS_, h0_, h1_, h2_, h3_, h4_, h5_, h6_, h7_, h8_, h9_, h10_, h11_, h12_⟩
                                  have n0_ : Aside0 (w27.heap[gb118]? = some (.cells #[.int .i64 a0_0, .int .i64 a0_1, .int .i64 a0_2, .int .i64 a0_3, .int .i64 a0_4, .int .i64 a0_5, .int .i64 a0_6] 29 (0, 0))) := ⟨h0_⟩
                                  have n1_ : Aside0 (w27.heap[gb119]? = some (.cells #[.int .i64 a1_0, .int .i64 a1_1, .int .i64 a1_2, .int .i64 a1_3] 53 (0, 0))) := ⟨h1_⟩
                                  have n2_ : Aside0 (w27.heap[gb120]? = some (.cells #[.int .i64 a1_0, .int .i64 a1_1, .int .i64 a1_2, .int .i64 a1_3] 54 (0, 0))) := ⟨h2_⟩
                                  have n3_ : Aside0 (w27.heap[gb130]? = some (.cells #[.int .i64 0, .int .i64 0, .int .i64 0, .int .i64 0] 54 (0, 0))) := ⟨h3_⟩
                                  have n4_ : Aside0 (w.heap.size ≤ gb130) := ⟨h4_⟩
                                  have n5_ : Aside0 (w.heap.size ≤ gb130) := ⟨h5_⟩
                                  have n6_ : Aside0 (gb118 ≠ gb130) := ⟨h6_⟩
                                  have n7_ : Aside0 (gb130 ≠ gb118) := ⟨h7_⟩
                                  have n8_ : Aside0 (gb119 ≠ gb130) := ⟨h8_⟩
                                  have n9_ : Aside0 (gb130 ≠ gb119) := ⟨h9_⟩
                                  have n10_ : Aside0 (gb120 ≠ gb130) := ⟨h10_⟩
                                  have n11_ : Aside0 (gb130 ≠ gb120) := ⟨h11_⟩
                                  have n12_ : Aside0 (Below w.heap.size w w27) := ⟨h12_⟩
                                  clear BK118
                                  clear BK119
                                  clear BK120
                                  clear HB
                                  clear h0_ h1_ h2_ h3_ h4_ h5_ h6_ h7_ h8_ h9_ h10_ h11_ h12_
                                  have BK118 := n0_
                                  have BK119 := n1_
                                  have BK120 := n2_
                                  have BK130 := n3_
                                  have GW130 := n4_
                                  have GE130 := n5_
                                  have NB118_130 := n6_
                                  have NB130_118 := n7_
                                  have NB119_130 := n8_
                                  have NB130_119 := n9_
                                  have NB120_130 := n10_
                                  have NB130_120 := n11_
                                  have HB := n12_
                                  clear n0_ n1_ n2_ n3_ n4_ n5_ n6_ n7_ n8_ n9_ n10_ n11_ n12_
                                  have hHeld : w27.cell? ⟨gb118, 0, none⟩ = some (.int .i64 a0_0) ∧ w27.cell? ⟨gb118, 1, none⟩ = some (.int .i64 a0_1) ∧ w27.cell? ⟨gb118, 2, none⟩ = some (.int .i64 a0_2) ∧ w27.cell? ⟨gb118, 3, none⟩ = some (.int .i64 a0_3) ∧ w27.cell? ⟨gb118, 4, none⟩ = some (.int .i64 a0_4) ∧ w27.cell? ⟨gb118, 5, none⟩ = some (.int .i64 a0_5) ∧ w27.cell? ⟨gb118, 6, none⟩ = some (.int .i64 a0_6) ∧ w27.cell? ⟨gb119, 0, none⟩ = some (.int .i64 a1_0) ∧ w27.cell? ⟨gb119, 1, none⟩ = some (.int .i64 a1_1) ∧ w27.cell? ⟨gb119, 2, none⟩ = some (.int .i64 a1_2) ∧ w27.cell? ⟨gb119, 3, none⟩ = some (.int .i64 a1_3) ∧ w27.cell? ⟨gb120, 0, none⟩ = some (.int .i64 a1_0) ∧ w27.cell? ⟨gb120, 1, none⟩ = some (.int .i64 a1_1) ∧ w27.cell? ⟨gb120, 2, none⟩ = some (.int .i64 a1_2) ∧ w27.cell? ⟨gb120, 3, none⟩ = some (.int .i64 a1_3) := hS_
                                  refine norm_ (a' := ?_) ?_ ?_
                                  rotate_left
                                  · simp only [putAll, Act.put, List.setIfInBounds_toArray, List.set_cons_zero, List.set_cons_succ]
                                    rfl
                                  refine two_ (i := 5) (j := 12) (Ni := some 28) (Nj := some 12) #[true, true, true, true, true, true, true, true, true, true, true, false, false, true, false, false] #[true, true, true, true, true, false, true, true, true, true, true, false, true, true, false, false] rfl rfl rfl rfl (two_of HT_.out (by kernel_rfl)) (by decide) (by decide) (fun K hK => ?_) (fun K hK => ?_)
                                  · skip
                                    refine goes_ Try.func27 (by kernel_rfl) rfl #[.agg #[.int .i64 a0_0, .int .i64 a0_1, .int .i64 a0_2, .int .i64 a0_3, .int .i64 a0_4, .int .i64 a0_5, .int .i64 a0_6], .agg #[.int .i64 a1_0, .int .i64 a1_1, .int .i64 a1_2, .int .i64 a1_3], .int .i64 a2, .int .i64 a3, .int .i64 a4] (by rfl) rfl rfl (by (try simp only [List.map_toArray, List.map_cons, List.map_nil]); first | done | rfl | (simp only [List.length_drop, List.length_take]; rfl)) ?_
                                    with_reducible refine (quota_Next.calls a0_0 a0_1 a0_2 a0_3 a0_4 a0_5 a0_6 a1_0 a1_1 a1_2 a1_3 a2 a3 a4 t121 t122 t123 t124 _ A6.out).mono ?_
                                    rintro e w28 ⟨rfl, hb⟩
                                    refine ⟨_, rfl, ?_⟩
                                    have n0_ := Aside0.mk (blk_below (blk_l BK118.out) hb)
                                    have n1_ := Aside0.mk (blk_below (blk_l BK119.out) hb)
                                    have n2_ := Aside0.mk (blk_below (blk_l BK120.out) hb)
                                    have n3_ := Aside0.mk (blk_below (blk_l BK130.out) hb)
                                    have n4_ := Aside0.mk (below_step (by repeat (first | (with_reducible first | exact HB.out | apply below_alloc | apply pw_below_drewN | apply below_drew1 | refine below_set ?_ GE118.out | refine below_set ?_ GE119.out | refine below_set ?_ GE120.out | refine below_set ?_ GE130.out) | exact HB.out)) hb)
                                    clear BK118
                                    clear BK119
                                    clear BK120
                                    clear BK130
                                    clear HB
                                    have BK118 := n0_
                                    have BK119 := n1_
                                    have BK120 := n2_
                                    have BK130 := n3_
                                    have HB := n4_
                                    clear n0_ n1_ n2_ n3_ n4_
                                    (try clear hb)
                                    (try clear hb2)
                                    (try clear hk)
                                    (try clear hi)
                                    refine hK.out _ _ ⟨(blk_cell BK118.out 0).trans rfl, (blk_cell BK118.out 1).trans rfl, (blk_cell BK118.out 2).trans rfl, (blk_cell BK118.out 3).trans rfl, (blk_cell BK118.out 4).trans rfl, (blk_cell BK118.out 5).trans rfl, (blk_cell BK118.out 6).trans rfl, (blk_cell BK119.out 0).trans rfl, (blk_cell BK119.out 1).trans rfl, (blk_cell BK119.out 2).trans rfl, (blk_cell BK119.out 3).trans rfl, (blk_cell BK120.out 0).trans rfl, (blk_cell BK120.out 1).trans rfl, (blk_cell BK120.out 2).trans rfl, (blk_cell BK120.out 3).trans rfl⟩ (fun hHeld => ?_)
                                    clear hK K
                                    refine norm_ (a' := ?_) ?_ ?_
                                    rotate_left
                                    · show Act.put _ (some 28) _ = _
                                      simp only [Act.put, List.setIfInBounds_toArray, List.set_cons_zero, List.set_cons_succ, i64_w, i32_w]
                                      rfl
                                    exact norm_ (by first | (simp only [putAll, Act.put, List.setIfInBounds_toArray, List.set_cons_zero, List.set_cons_succ]; done) | (simp only [putAll, Act.put, List.setIfInBounds_toArray, List.set_cons_zero, List.set_cons_succ]; rfl)) (hJ5_13 (gb130) _ ⟨hHeld, (blk_l BK118.out), (blk_l BK119.out), (blk_l BK120.out), (blk_l BK130.out), GW130.out, GE130.out, NB118_130.out, NB130_118.out, NB119_130.out, NB130_119.out, NB120_130.out, NB130_120.out, (by repeat (first | (with_reducible first | exact HB.out | apply below_alloc | apply pw_below_drewN | apply below_drew1 | refine below_set ?_ GE118.out | refine below_set ?_ GE119.out | refine below_set ?_ GE120.out | refine below_set ?_ GE130.out) | exact HB.out))⟩)
                                  · skip
                                    refine box_step ?hg (N := 12) ?hd (cs := #[.int .i64 0, .int .i64 0, .int .i64 0, .int .i64 0]) (t := 53) ?hr ?_; (case hd => rfl); (case hg => rfl); (case hr => first | (go_simp; done) | (go_simp; rfl))
                                    intro gb129 hg w28 hbox hb
                                    have n0_ := Aside0.mk (blk_below (blk_l BK118.out) hb)
                                    have n1_ := Aside0.mk (blk_below (blk_l BK119.out) hb)
                                    have n2_ := Aside0.mk (blk_below (blk_l BK120.out) hb)
                                    have n3_ := Aside0.mk (blk_below (blk_l BK130.out) hb)
                                    have n4_ := Aside0.mk (below_step (by repeat (first | (with_reducible first | exact HB.out | apply below_alloc | apply pw_below_drewN | apply below_drew1 | refine below_set ?_ GE118.out | refine below_set ?_ GE119.out | refine below_set ?_ GE120.out | refine below_set ?_ GE130.out) | exact HB.out)) hb)
                                    have n5_ := Aside0.mk (hbox)
                                    have n6_ := Aside0.mk ((by rw [hg]; exact (below_size (by repeat (first | (with_reducible first | exact HB.out | apply below_alloc | apply pw_below_drewN | apply below_drew1 | refine below_set ?_ GE118.out | refine below_set ?_ GE119.out | refine below_set ?_ GE120.out | refine below_set ?_ GE130.out) | exact HB.out))) : w.heap.size ≤ gb129))
                                    have n7_ := Aside0.mk ((by rw [hg]; exact (below_size (by repeat (first | (with_reducible first | exact HB.out | apply below_alloc | apply pw_below_drewN | apply below_drew1 | refine below_set ?_ GE118.out | refine below_set ?_ GE119.out | refine below_set ?_ GE120.out | refine below_set ?_ GE130.out) | exact HB.out))) : w.heap.size ≤ gb129))
                                    have n8_ := Aside0.mk ((by rw [hg]; exact Nat.ne_of_lt (blk_lt (blk_l BK118.out)) : gb118 ≠ gb129))
                                    have n9_ := Aside0.mk ((by rw [hg]; exact Nat.ne_of_gt (blk_lt (blk_l BK118.out)) : gb129 ≠ gb118))
                                    have n10_ := Aside0.mk ((by rw [hg]; exact Nat.ne_of_lt (blk_lt (blk_l BK119.out)) : gb119 ≠ gb129))
                                    have n11_ := Aside0.mk ((by rw [hg]; exact Nat.ne_of_gt (blk_lt (blk_l BK119.out)) : gb129 ≠ gb119))
                                    have n12_ := Aside0.mk ((by rw [hg]; exact Nat.ne_of_lt (blk_lt (blk_l BK120.out)) : gb120 ≠ gb129))
                                    have n13_ := Aside0.mk ((by rw [hg]; exact Nat.ne_of_gt (blk_lt (blk_l BK120.out)) : gb129 ≠ gb120))
                                    have n14_ := Aside0.mk ((by rw [hg]; exact Nat.ne_of_lt (blk_lt (blk_l BK130.out)) : gb130 ≠ gb129))
                                    have n15_ := Aside0.mk ((by rw [hg]; exact Nat.ne_of_gt (blk_lt (blk_l BK130.out)) : gb129 ≠ gb130))
                                    clear BK118
                                    clear BK119
                                    clear BK120
                                    clear BK130
                                    clear HB
                                    have BK118 := n0_
                                    have BK119 := n1_
                                    have BK120 := n2_
                                    have BK130 := n3_
                                    have HB := n4_
                                    have BK129 := n5_
                                    have GW129 := n6_
                                    have GE129 := n7_
                                    have NB118_129 := n8_
                                    have NB129_118 := n9_
                                    have NB119_129 := n10_
                                    have NB129_119 := n11_
                                    have NB120_129 := n12_
                                    have NB129_120 := n13_
                                    have NB130_129 := n14_
                                    have NB129_130 := n15_
                                    clear n0_ n1_ n2_ n3_ n4_ n5_ n6_ n7_ n8_ n9_ n10_ n11_ n12_ n13_ n14_ n15_
                                    clear hb hbox hg
                                    refine hK.out _ _ ⟨(blk_cell BK118.out 0).trans rfl, (blk_cell BK118.out 1).trans rfl, (blk_cell BK118.out 2).trans rfl, (blk_cell BK118.out 3).trans rfl, (blk_cell BK118.out 4).trans rfl, (blk_cell BK118.out 5).trans rfl, (blk_cell BK118.out 6).trans rfl, (blk_cell BK119.out 0).trans rfl, (blk_cell BK119.out 1).trans rfl, (blk_cell BK119.out 2).trans rfl, (blk_cell BK119.out 3).trans rfl, (blk_cell BK120.out 0).trans rfl, (blk_cell BK120.out 1).trans rfl, (blk_cell BK120.out 2).trans rfl, (blk_cell BK120.out 3).trans rfl⟩ (fun hHeld => ?_)
                                    clear hK K
                                    refine norm_ (a' := ?_) ?_ ?_
                                    rotate_left
                                    · show Act.put _ (some 12) _ = _
                                      simp only [Act.put, List.setIfInBounds_toArray, List.set_cons_zero, List.set_cons_succ, i64_w, i32_w]
                                      rfl
                                    exact norm_ (by first | (simp only [putAll, Act.put, List.setIfInBounds_toArray, List.set_cons_zero, List.set_cons_succ]; done) | (simp only [putAll, Act.put, List.setIfInBounds_toArray, List.set_cons_zero, List.set_cons_succ]; rfl)) (hJ12_13 (gb129, gb130) _ ⟨hHeld, (blk_l BK118.out), (blk_l BK119.out), (blk_l BK120.out), (blk_l BK129.out), (blk_l BK130.out), GW129.out, GE129.out, NB118_129.out, NB129_118.out, NB119_129.out, NB129_119.out, NB120_129.out, NB129_120.out, NB130_129.out, NB129_130.out, GW130.out, GE130.out, NB118_130.out, NB130_118.out, NB119_130.out, NB130_119.out, NB120_130.out, NB130_120.out, (by repeat (first | (with_reducible first | exact HB.out | apply below_alloc | apply pw_below_drewN | apply below_drew1 | refine below_set ?_ GE118.out | refine below_set ?_ GE119.out | refine below_set ?_ GE120.out | refine below_set ?_ GE130.out | refine below_set ?_ GE129.out) | exact HB.out))⟩)
                              · skip
                                rintro gb129 w27 ⟨hS_, h0_, h1_, h2_, h3_, h4_, h5_, h6_, h7_, h8_, h9_, h10_, h11_, h12_⟩
                                have n0_ : Aside0 (w27.heap[gb118]? = some (.cells #[.int .i64 a0_0, .int .i64 a0_1, .int .i64 a0_2, .int .i64 a0_3, .int .i64 a0_4, .int .i64 a0_5, .int .i64 a0_6] 29 (0, 0))) := ⟨h0_⟩
                                have n1_ : Aside0 (w27.heap[gb119]? = some (.cells #[.int .i64 a1_0, .int .i64 a1_1, .int .i64 a1_2, .int .i64 a1_3] 53 (0, 0))) := ⟨h1_⟩
                                have n2_ : Aside0 (w27.heap[gb120]? = some (.cells #[.int .i64 a1_0, .int .i64 a1_1, .int .i64 a1_2, .int .i64 a1_3] 54 (0, 0))) := ⟨h2_⟩
                                have n3_ : Aside0 (w27.heap[gb129]? = some (.cells #[.int .i64 0, .int .i64 0, .int .i64 0, .int .i64 0] 53 (0, 0))) := ⟨h3_⟩
                                have n4_ : Aside0 (w.heap.size ≤ gb129) := ⟨h4_⟩
                                have n5_ : Aside0 (w.heap.size ≤ gb129) := ⟨h5_⟩
                                have n6_ : Aside0 (gb118 ≠ gb129) := ⟨h6_⟩
                                have n7_ : Aside0 (gb129 ≠ gb118) := ⟨h7_⟩
                                have n8_ : Aside0 (gb119 ≠ gb129) := ⟨h8_⟩
                                have n9_ : Aside0 (gb129 ≠ gb119) := ⟨h9_⟩
                                have n10_ : Aside0 (gb120 ≠ gb129) := ⟨h10_⟩
                                have n11_ : Aside0 (gb129 ≠ gb120) := ⟨h11_⟩
                                have n12_ : Aside0 (Below w.heap.size w w27) := ⟨h12_⟩
                                clear BK118
                                clear BK119
                                clear BK120
                                clear HB
                                clear h0_ h1_ h2_ h3_ h4_ h5_ h6_ h7_ h8_ h9_ h10_ h11_ h12_
                                have BK118 := n0_
                                have BK119 := n1_
                                have BK120 := n2_
                                have BK129 := n3_
                                have GW129 := n4_
                                have GE129 := n5_
                                have NB118_129 := n6_
                                have NB129_118 := n7_
                                have NB119_129 := n8_
                                have NB129_119 := n9_
                                have NB120_129 := n10_
                                have NB129_120 := n11_
                                have HB := n12_
                                clear n0_ n1_ n2_ n3_ n4_ n5_ n6_ n7_ n8_ n9_ n10_ n11_ n12_
                                have hHeld : w27.cell? ⟨gb118, 0, none⟩ = some (.int .i64 a0_0) ∧ w27.cell? ⟨gb118, 1, none⟩ = some (.int .i64 a0_1) ∧ w27.cell? ⟨gb118, 2, none⟩ = some (.int .i64 a0_2) ∧ w27.cell? ⟨gb118, 3, none⟩ = some (.int .i64 a0_3) ∧ w27.cell? ⟨gb118, 4, none⟩ = some (.int .i64 a0_4) ∧ w27.cell? ⟨gb118, 5, none⟩ = some (.int .i64 a0_5) ∧ w27.cell? ⟨gb118, 6, none⟩ = some (.int .i64 a0_6) ∧ w27.cell? ⟨gb119, 0, none⟩ = some (.int .i64 a1_0) ∧ w27.cell? ⟨gb119, 1, none⟩ = some (.int .i64 a1_1) ∧ w27.cell? ⟨gb119, 2, none⟩ = some (.int .i64 a1_2) ∧ w27.cell? ⟨gb119, 3, none⟩ = some (.int .i64 a1_3) ∧ w27.cell? ⟨gb120, 0, none⟩ = some (.int .i64 a1_0) ∧ w27.cell? ⟨gb120, 1, none⟩ = some (.int .i64 a1_1) ∧ w27.cell? ⟨gb120, 2, none⟩ = some (.int .i64 a1_2) ∧ w27.cell? ⟨gb120, 3, none⟩ = some (.int .i64 a1_3) := hS_
                                refine norm_ (a' := ?_) ?_ ?_
                                rotate_left
                                · simp only [putAll, Act.put, List.setIfInBounds_toArray, List.set_cons_zero, List.set_cons_succ]
                                  rfl
                                refine two_ (i := 5) (j := 13) (Ni := some 28) (Nj := some 13) #[true, true, true, true, true, true, true, true, true, true, true, false, true, false, false, false] #[true, true, true, true, true, false, true, true, true, true, true, false, true, true, false, false] rfl rfl rfl rfl (two_of HT_.out (by kernel_rfl)) (by decide) (by decide) (fun K hK => ?_) (fun K hK => ?_)
                                · skip
                                  refine goes_ Try.func27 (by kernel_rfl) rfl #[.agg #[.int .i64 a0_0, .int .i64 a0_1, .int .i64 a0_2, .int .i64 a0_3, .int .i64 a0_4, .int .i64 a0_5, .int .i64 a0_6], .agg #[.int .i64 a1_0, .int .i64 a1_1, .int .i64 a1_2, .int .i64 a1_3], .int .i64 a2, .int .i64 a3, .int .i64 a4] (by rfl) rfl rfl (by (try simp only [List.map_toArray, List.map_cons, List.map_nil]); first | done | rfl | (simp only [List.length_drop, List.length_take]; rfl)) ?_
                                  with_reducible refine (quota_Next.calls a0_0 a0_1 a0_2 a0_3 a0_4 a0_5 a0_6 a1_0 a1_1 a1_2 a1_3 a2 a3 a4 t121 t122 t123 t124 _ A6.out).mono ?_
                                  rintro e w28 ⟨rfl, hb⟩
                                  refine ⟨_, rfl, ?_⟩
                                  have n0_ := Aside0.mk (blk_below (blk_l BK118.out) hb)
                                  have n1_ := Aside0.mk (blk_below (blk_l BK119.out) hb)
                                  have n2_ := Aside0.mk (blk_below (blk_l BK120.out) hb)
                                  have n3_ := Aside0.mk (blk_below (blk_l BK129.out) hb)
                                  have n4_ := Aside0.mk (below_step (by repeat (first | (with_reducible first | exact HB.out | apply below_alloc | apply pw_below_drewN | apply below_drew1 | refine below_set ?_ GE118.out | refine below_set ?_ GE119.out | refine below_set ?_ GE120.out | refine below_set ?_ GE129.out) | exact HB.out)) hb)
                                  clear BK118
                                  clear BK119
                                  clear BK120
                                  clear BK129
                                  clear HB
                                  have BK118 := n0_
                                  have BK119 := n1_
                                  have BK120 := n2_
                                  have BK129 := n3_
                                  have HB := n4_
                                  clear n0_ n1_ n2_ n3_ n4_
                                  (try clear hb)
                                  (try clear hb2)
                                  (try clear hk)
                                  (try clear hi)
                                  refine hK.out _ _ ⟨(blk_cell BK118.out 0).trans rfl, (blk_cell BK118.out 1).trans rfl, (blk_cell BK118.out 2).trans rfl, (blk_cell BK118.out 3).trans rfl, (blk_cell BK118.out 4).trans rfl, (blk_cell BK118.out 5).trans rfl, (blk_cell BK118.out 6).trans rfl, (blk_cell BK119.out 0).trans rfl, (blk_cell BK119.out 1).trans rfl, (blk_cell BK119.out 2).trans rfl, (blk_cell BK119.out 3).trans rfl, (blk_cell BK120.out 0).trans rfl, (blk_cell BK120.out 1).trans rfl, (blk_cell BK120.out 2).trans rfl, (blk_cell BK120.out 3).trans rfl⟩ (fun hHeld => ?_)
                                  clear hK K
                                  refine norm_ (a' := ?_) ?_ ?_
                                  rotate_left
                                  · show Act.put _ (some 28) _ = _
                                    simp only [Act.put, List.setIfInBounds_toArray, List.set_cons_zero, List.set_cons_succ, i64_w, i32_w]
                                    rfl
                                  exact norm_ (by first | (simp only [putAll, Act.put, List.setIfInBounds_toArray, List.set_cons_zero, List.set_cons_succ]; done) | (simp only [putAll, Act.put, List.setIfInBounds_toArray, List.set_cons_zero, List.set_cons_succ]; rfl)) (hJ5_12 (gb129) _ ⟨hHeld, (blk_l BK118.out), (blk_l BK119.out), (blk_l BK120.out), (blk_l BK129.out), GW129.out, GE129.out, NB118_129.out, NB129_118.out, NB119_129.out, NB129_119.out, NB120_129.out, NB129_120.out, (by repeat (first | (with_reducible first | exact HB.out | apply below_alloc | apply pw_below_drewN | apply below_drew1 | refine below_set ?_ GE118.out | refine below_set ?_ GE119.out | refine below_set ?_ GE120.out | refine below_set ?_ GE129.out) | exact HB.out))⟩)
                                · skip
                                  refine box_step ?hg (N := 13) ?hd (cs := #[.int .i64 0, .int .i64 0, .int .i64 0, .int .i64 0]) (t := 54) ?hr ?_; (case hd => rfl); (case hg => rfl); (case hr => first | (go_simp; done) | (go_simp; rfl))
                                  intro gb130 hg w28 hbox hb
                                  have n0_ := Aside0.mk (blk_below (blk_l BK118.out) hb)
                                  have n1_ := Aside0.mk (blk_below (blk_l BK119.out) hb)
                                  have n2_ := Aside0.mk (blk_below (blk_l BK120.out) hb)
                                  have n3_ := Aside0.mk (blk_below (blk_l BK129.out) hb)
                                  have n4_ := Aside0.mk (below_step (by repeat (first | (with_reducible first | exact HB.out | apply below_alloc | apply pw_below_drewN | apply below_drew1 | refine below_set ?_ GE118.out | refine below_set ?_ GE119.out | refine below_set ?_ GE120.out | refine below_set ?_ GE129.out) | exact HB.out)) hb)
                                  have n5_ := Aside0.mk (hbox)
                                  have n6_ := Aside0.mk ((by rw [hg]; exact (below_size (by repeat (first | (with_reducible first | exact HB.out | apply below_alloc | apply pw_below_drewN | apply below_drew1 | refine below_set ?_ GE118.out | refine below_set ?_ GE119.out | refine below_set ?_ GE120.out | refine below_set ?_ GE129.out) | exact HB.out))) : w.heap.size ≤ gb130))
                                  have n7_ := Aside0.mk ((by rw [hg]; exact (below_size (by repeat (first | (with_reducible first | exact HB.out | apply below_alloc | apply pw_below_drewN | apply below_drew1 | refine below_set ?_ GE118.out | refine below_set ?_ GE119.out | refine below_set ?_ GE120.out | refine below_set ?_ GE129.out) | exact HB.out))) : w.heap.size ≤ gb130))
                                  have n8_ := Aside0.mk ((by rw [hg]; exact Nat.ne_of_lt (blk_lt (blk_l BK118.out)) : gb118 ≠ gb130))
                                  have n9_ := Aside0.mk ((by rw [hg]; exact Nat.ne_of_gt (blk_lt (blk_l BK118.out)) : gb130 ≠ gb118))
                                  have n10_ := Aside0.mk ((by rw [hg]; exact Nat.ne_of_lt (blk_lt (blk_l BK119.out)) : gb119 ≠ gb130))
                                  have n11_ := Aside0.mk ((by rw [hg]; exact Nat.ne_of_gt (blk_lt (blk_l BK119.out)) : gb130 ≠ gb119))
                                  have n12_ := Aside0.mk ((by rw [hg]; exact Nat.ne_of_lt (blk_lt (blk_l BK120.out)) : gb120 ≠ gb130))
                                  have n13_ := Aside0.mk ((by rw [hg]; exact Nat.ne_of_gt (blk_lt (blk_l BK120.out)) : gb130 ≠ gb120))
                                  have n14_ := Aside0.mk ((by rw [hg]; exact Nat.ne_of_lt (blk_lt (blk_l BK129.out)) : gb129 ≠ gb130))
                                  have n15_ := Aside0.mk ((by rw [hg]; exact Nat.ne_of_gt (blk_lt (blk_l BK129.out)) : gb130 ≠ gb129))
                                  clear BK118
                                  clear BK119
                                  clear BK120
                                  clear BK129
                                  clear HB
                                  have BK118 := n0_
                                  have BK119 := n1_
                                  have BK120 := n2_
                                  have BK129 := n3_
                                  have HB := n4_
                                  have BK130 := n5_
                                  have GW130 := n6_
                                  have GE130 := n7_
                                  have NB118_130 := n8_
                                  have NB130_118 := n9_
                                  have NB119_130 := n10_
                                  have NB130_119 := n11_
                                  have NB120_130 := n12_
                                  have NB130_120 := n13_
                                  have NB129_130 := n14_
                                  have NB130_129 := n15_
                                  clear n0_ n1_ n2_ n3_ n4_ n5_ n6_ n7_ n8_ n9_ n10_ n11_ n12_ n13_ n14_ n15_
                                  clear hb hbox hg
                                  refine hK.out _ _ ⟨(blk_cell BK118.out 0).trans rfl, (blk_cell BK118.out 1).trans rfl, (blk_cell BK118.out 2).trans rfl, (blk_cell BK118.out 3).trans rfl, (blk_cell BK118.out 4).trans rfl, (blk_cell BK118.out 5).trans rfl, (blk_cell BK118.out 6).trans rfl, (blk_cell BK119.out 0).trans rfl, (blk_cell BK119.out 1).trans rfl, (blk_cell BK119.out 2).trans rfl, (blk_cell BK119.out 3).trans rfl, (blk_cell BK120.out 0).trans rfl, (blk_cell BK120.out 1).trans rfl, (blk_cell BK120.out 2).trans rfl, (blk_cell BK120.out 3).trans rfl⟩ (fun hHeld => ?_)
                                  clear hK K
                                  refine norm_ (a' := ?_) ?_ ?_
                                  rotate_left
                                  · show Act.put _ (some 13) _ = _
                                    simp only [Act.put, List.setIfInBounds_toArray, List.set_cons_zero, List.set_cons_succ, i64_w, i32_w]
                                    rfl
                                  exact norm_ (by first | (simp only [putAll, Act.put, List.setIfInBounds_toArray, List.set_cons_zero, List.set_cons_succ]; done) | (simp only [putAll, Act.put, List.setIfInBounds_toArray, List.set_cons_zero, List.set_cons_succ]; rfl)) (hJ12_13 (gb129, gb130) _ ⟨hHeld, (blk_l BK118.out), (blk_l BK119.out), (blk_l BK120.out), (blk_l BK129.out), (blk_l BK130.out), GW129.out, GE129.out, NB118_129.out, NB129_118.out, NB119_129.out, NB129_119.out, NB120_129.out, NB129_120.out, NB130_129.out, NB129_130.out, GW130.out, GE130.out, NB118_130.out, NB130_118.out, NB119_130.out, NB130_119.out, NB120_130.out, NB130_120.out, (by repeat (first | (with_reducible first | exact HB.out | apply below_alloc | apply pw_below_drewN | apply below_drew1 | refine below_set ?_ GE118.out | refine below_set ?_ GE119.out | refine below_set ?_ GE120.out | refine below_set ?_ GE129.out | refine below_set ?_ GE130.out) | exact HB.out))⟩)
                            · skip
                              rintro _ w27 ⟨hS_, h0_, h1_, h2_, h3_⟩
                              have n0_ : Aside0 (w27.heap[gb118]? = some (.cells #[.int .i64 a0_0, .int .i64 a0_1, .int .i64 a0_2, .int .i64 a0_3, .int .i64 a0_4, .int .i64 a0_5, .int .i64 a0_6] 29 (0, 0))) := ⟨h0_⟩
                              have n1_ : Aside0 (w27.heap[gb119]? = some (.cells #[.int .i64 a1_0, .int .i64 a1_1, .int .i64 a1_2, .int .i64 a1_3] 53 (0, 0))) := ⟨h1_⟩
                              have n2_ : Aside0 (w27.heap[gb120]? = some (.cells #[.int .i64 a1_0, .int .i64 a1_1, .int .i64 a1_2, .int .i64 a1_3] 54 (0, 0))) := ⟨h2_⟩
                              have n3_ : Aside0 (Below w.heap.size w w27) := ⟨h3_⟩
                              clear BK118
                              clear BK119
                              clear BK120
                              clear HB
                              clear h0_ h1_ h2_ h3_
                              have BK118 := n0_
                              have BK119 := n1_
                              have BK120 := n2_
                              have HB := n3_
                              clear n0_ n1_ n2_ n3_
                              have hHeld : w27.cell? ⟨gb118, 0, none⟩ = some (.int .i64 a0_0) ∧ w27.cell? ⟨gb118, 1, none⟩ = some (.int .i64 a0_1) ∧ w27.cell? ⟨gb118, 2, none⟩ = some (.int .i64 a0_2) ∧ w27.cell? ⟨gb118, 3, none⟩ = some (.int .i64 a0_3) ∧ w27.cell? ⟨gb118, 4, none⟩ = some (.int .i64 a0_4) ∧ w27.cell? ⟨gb118, 5, none⟩ = some (.int .i64 a0_5) ∧ w27.cell? ⟨gb118, 6, none⟩ = some (.int .i64 a0_6) ∧ w27.cell? ⟨gb119, 0, none⟩ = some (.int .i64 a1_0) ∧ w27.cell? ⟨gb119, 1, none⟩ = some (.int .i64 a1_1) ∧ w27.cell? ⟨gb119, 2, none⟩ = some (.int .i64 a1_2) ∧ w27.cell? ⟨gb119, 3, none⟩ = some (.int .i64 a1_3) ∧ w27.cell? ⟨gb120, 0, none⟩ = some (.int .i64 a1_0) ∧ w27.cell? ⟨gb120, 1, none⟩ = some (.int .i64 a1_1) ∧ w27.cell? ⟨gb120, 2, none⟩ = some (.int .i64 a1_2) ∧ w27.cell? ⟨gb120, 3, none⟩ = some (.int .i64 a1_3) := hS_
                              refine norm_ (a' := ?_) ?_ ?_
                              rotate_left
                              · simp only [putAll, Act.put, List.setIfInBounds_toArray, List.set_cons_zero, List.set_cons_succ]
                                rfl
                              refine three_ (i := 11) (j := 12) (k := 13) (Ni := some 34) (Nj := some 12) (Nk := some 13) #[true, true, true, true, true, true, true, true, true, true, true, true, false, false, false, false] #[true, true, true, true, true, true, true, true, true, true, true, false, true, false, false, false] #[true, true, true, true, true, true, true, true, true, true, true, false, false, true, false, false] rfl rfl rfl rfl rfl rfl (three_of HT_.out (by kernel_rfl)) (by decide) (by decide) (by decide) (fun K hK => ?_) (fun K hK => ?_) (fun K hK => ?_)
                              · skip
                                refine goes_ Try.func28 (by kernel_rfl) rfl #[.agg #[.int .i64 a0_0, .int .i64 a0_1, .int .i64 a0_2, .int .i64 a0_3, .int .i64 a0_4, .int .i64 a0_5, .int .i64 a0_6], .agg #[.int .i64 a1_0, .int .i64 a1_1, .int .i64 a1_2, .int .i64 a1_3], .int .i64 a2, .int .i64 a3, .int .i64 a4] (by rfl) rfl rfl (by (try simp only [List.map_toArray, List.map_cons, List.map_nil]); first | done | rfl | (simp only [List.length_drop, List.length_take]; rfl)) ?_
                                with_reducible refine (beguinageref22_Next.calls a0_0 a0_1 a0_2 a0_3 a0_4 a0_5 a0_6 a1_0 a1_1 a1_2 a1_3 a2 a3 a4 t125 t126 t127 t128 _ A7.out).mono ?_
                                rintro e w28 ⟨rfl, hb⟩
                                refine ⟨_, rfl, ?_⟩
                                have n0_ := Aside0.mk (blk_below (blk_l BK118.out) hb)
                                have n1_ := Aside0.mk (blk_below (blk_l BK119.out) hb)
                                have n2_ := Aside0.mk (blk_below (blk_l BK120.out) hb)
                                have n3_ := Aside0.mk (below_step (by repeat (first | (with_reducible first | exact HB.out | apply below_alloc | apply pw_below_drewN | apply below_drew1 | refine below_set ?_ GE118.out | refine below_set ?_ GE119.out | refine below_set ?_ GE120.out) | exact HB.out)) hb)
                                clear BK118
                                clear BK119
                                clear BK120
                                clear HB
                                have BK118 := n0_
                                have BK119 := n1_
                                have BK120 := n2_
                                have HB := n3_
                                clear n0_ n1_ n2_ n3_
                                (try clear hb)
                                (try clear hb2)
                                (try clear hk)
                                (try clear hi)
                                refine hK.out _ _ ⟨(blk_cell BK118.out 0).trans rfl, (blk_cell BK118.out 1).trans rfl, (blk_cell BK118.out 2).trans rfl, (blk_cell BK118.out 3).trans rfl, (blk_cell BK118.out 4).trans rfl, (blk_cell BK118.out 5).trans rfl, (blk_cell BK118.out 6).trans rfl, (blk_cell BK119.out 0).trans rfl, (blk_cell BK119.out 1).trans rfl, (blk_cell BK119.out 2).trans rfl, (blk_cell BK119.out 3).trans rfl, (blk_cell BK120.out 0).trans rfl, (blk_cell BK120.out 1).trans rfl, (blk_cell BK120.out 2).trans rfl, (blk_cell BK120.out 3).trans rfl⟩ (fun hHeld => ?_)
                                clear hK K
                                refine norm_ (a' := ?_) ?_ ?_
                                rotate_left
                                · show Act.put _ (some 34) _ = _
                                  simp only [Act.put, List.setIfInBounds_toArray, List.set_cons_zero, List.set_cons_succ, i64_w, i32_w]
                                  rfl
                                exact norm_ (by first | (simp only [putAll, Act.put, List.setIfInBounds_toArray, List.set_cons_zero, List.set_cons_succ]; done) | (simp only [putAll, Act.put, List.setIfInBounds_toArray, List.set_cons_zero, List.set_cons_succ]; rfl)) (hJ5_11 () _ ⟨hHeld, (blk_l BK118.out), (blk_l BK119.out), (blk_l BK120.out), (by repeat (first | (with_reducible first | exact HB.out | apply below_alloc | apply pw_below_drewN | apply below_drew1 | refine below_set ?_ GE118.out | refine below_set ?_ GE119.out | refine below_set ?_ GE120.out) | exact HB.out))⟩)
                              · skip
                                refine box_step ?hg (N := 12) ?hd (cs := #[.int .i64 0, .int .i64 0, .int .i64 0, .int .i64 0]) (t := 53) ?hr ?_; (case hd => rfl); (case hg => rfl); (case hr => first | (go_simp; done) | (go_simp; rfl))
                                intro gb129 hg w28 hbox hb
                                have n0_ := Aside0.mk (blk_below (blk_l BK118.out) hb)
                                have n1_ := Aside0.mk (blk_below (blk_l BK119.out) hb)
                                have n2_ := Aside0.mk (blk_below (blk_l BK120.out) hb)
                                have n3_ := Aside0.mk (below_step (by repeat (first | (with_reducible first | exact HB.out | apply below_alloc | apply pw_below_drewN | apply below_drew1 | refine below_set ?_ GE118.out | refine below_set ?_ GE119.out | refine below_set ?_ GE120.out) | exact HB.out)) hb)
                                have n4_ := Aside0.mk (hbox)
                                have n5_ := Aside0.mk ((by rw [hg]; exact (below_size (by repeat (first | (with_reducible first | exact HB.out | apply below_alloc | apply pw_below_drewN | apply below_drew1 | refine below_set ?_ GE118.out | refine below_set ?_ GE119.out | refine below_set ?_ GE120.out) | exact HB.out))) : w.heap.size ≤ gb129))
                                have n6_ := Aside0.mk ((by rw [hg]; exact (below_size (by repeat (first | (with_reducible first | exact HB.out | apply below_alloc | apply pw_below_drewN | apply below_drew1 | refine below_set ?_ GE118.out | refine below_set ?_ GE119.out | refine below_set ?_ GE120.out) | exact HB.out))) : w.heap.size ≤ gb129))
                                have n7_ := Aside0.mk ((by rw [hg]; exact Nat.ne_of_lt (blk_lt (blk_l BK118.out)) : gb118 ≠ gb129))
                                have n8_ := Aside0.mk ((by rw [hg]; exact Nat.ne_of_gt (blk_lt (blk_l BK118.out)) : gb129 ≠ gb118))
                                have n9_ := Aside0.mk ((by rw [hg]; exact Nat.ne_of_lt (blk_lt (blk_l BK119.out)) : gb119 ≠ gb129))
                                have n10_ := Aside0.mk ((by rw [hg]; exact Nat.ne_of_gt (blk_lt (blk_l BK119.out)) : gb129 ≠ gb119))
                                have n11_ := Aside0.mk ((by rw [hg]; exact Nat.ne_of_lt (blk_lt (blk_l BK120.out)) : gb120 ≠ gb129))
                                have n12_ := Aside0.mk ((by rw [hg]; exact Nat.ne_of_gt (blk_lt (blk_l BK120.out)) : gb129 ≠ gb120))
                                clear BK118
                                clear BK119
                                clear BK120
                                clear HB
                                have BK118 := n0_
                                have BK119 := n1_
                                have BK120 := n2_
                                have HB := n3_
                                have BK129 := n4_
                                have GW129 := n5_
                                have GE129 := n6_
                                have NB118_129 := n7_
                                have NB129_118 := n8_
                                have NB119_129 := n9_
                                have NB129_119 := n10_
                                have NB120_129 := n11_
                                have NB129_120 := n12_
                                clear n0_ n1_ n2_ n3_ n4_ n5_ n6_ n7_ n8_ n9_ n10_ n11_ n12_
                                clear hb hbox hg
                                refine hK.out _ _ ⟨(blk_cell BK118.out 0).trans rfl, (blk_cell BK118.out 1).trans rfl, (blk_cell BK118.out 2).trans rfl, (blk_cell BK118.out 3).trans rfl, (blk_cell BK118.out 4).trans rfl, (blk_cell BK118.out 5).trans rfl, (blk_cell BK118.out 6).trans rfl, (blk_cell BK119.out 0).trans rfl, (blk_cell BK119.out 1).trans rfl, (blk_cell BK119.out 2).trans rfl, (blk_cell BK119.out 3).trans rfl, (blk_cell BK120.out 0).trans rfl, (blk_cell BK120.out 1).trans rfl, (blk_cell BK120.out 2).trans rfl, (blk_cell BK120.out 3).trans rfl⟩ (fun hHeld => ?_)
                                clear hK K
                                refine norm_ (a' := ?_) ?_ ?_
                                rotate_left
                                · show Act.put _ (some 12) _ = _
                                  simp only [Act.put, List.setIfInBounds_toArray, List.set_cons_zero, List.set_cons_succ, i64_w, i32_w]
                                  rfl
                                exact norm_ (by first | (simp only [putAll, Act.put, List.setIfInBounds_toArray, List.set_cons_zero, List.set_cons_succ]; done) | (simp only [putAll, Act.put, List.setIfInBounds_toArray, List.set_cons_zero, List.set_cons_succ]; rfl)) (hJ5_12 (gb129) _ ⟨hHeld, (blk_l BK118.out), (blk_l BK119.out), (blk_l BK120.out), (blk_l BK129.out), GW129.out, GE129.out, NB118_129.out, NB129_118.out, NB119_129.out, NB129_119.out, NB120_129.out, NB129_120.out, (by repeat (first | (with_reducible first | exact HB.out | apply below_alloc | apply pw_below_drewN | apply below_drew1 | refine below_set ?_ GE118.out | refine below_set ?_ GE119.out | refine below_set ?_ GE120.out | refine below_set ?_ GE129.out) | exact HB.out))⟩)
                              · skip
                                refine box_step ?hg (N := 13) ?hd (cs := #[.int .i64 0, .int .i64 0, .int .i64 0, .int .i64 0]) (t := 54) ?hr ?_; (case hd => rfl); (case hg => rfl); (case hr => first | (go_simp; done) | (go_simp; rfl))
                                intro gb130 hg w28 hbox hb
                                have n0_ := Aside0.mk (blk_below (blk_l BK118.out) hb)
                                have n1_ := Aside0.mk (blk_below (blk_l BK119.out) hb)
                                have n2_ := Aside0.mk (blk_below (blk_l BK120.out) hb)
                                have n3_ := Aside0.mk (below_step (by repeat (first | (with_reducible first | exact HB.out | apply below_alloc | apply pw_below_drewN | apply below_drew1 | refine below_set ?_ GE118.out | refine below_set ?_ GE119.out | refine below_set ?_ GE120.out) | exact HB.out)) hb)
                                have n4_ := Aside0.mk (hbox)
                                have n5_ := Aside0.mk ((by rw [hg]; exact (below_size (by repeat (first | (with_reducible first | exact HB.out | apply below_alloc | apply pw_below_drewN | apply below_drew1 | refine below_set ?_ GE118.out | refine below_set ?_ GE119.out | refine below_set ?_ GE120.out) | exact HB.out))) : w.heap.size ≤ gb130))
                                have n6_ := Aside0.mk ((by rw [hg]; exact (below_size (by repeat (first | (with_reducible first | exact HB.out | apply below_alloc | apply pw_below_drewN | apply below_drew1 | refine below_set ?_ GE118.out | refine below_set ?_ GE119.out | refine below_set ?_ GE120.out) | exact HB.out))) : w.heap.size ≤ gb130))
                                have n7_ := Aside0.mk ((by rw [hg]; exact Nat.ne_of_lt (blk_lt (blk_l BK118.out)) : gb118 ≠ gb130))
                                have n8_ := Aside0.mk ((by rw [hg]; exact Nat.ne_of_gt (blk_lt (blk_l BK118.out)) : gb130 ≠ gb118))
                                have n9_ := Aside0.mk ((by rw [hg]; exact Nat.ne_of_lt (blk_lt (blk_l BK119.out)) : gb119 ≠ gb130))
                                have n10_ := Aside0.mk ((by rw [hg]; exact Nat.ne_of_gt (blk_lt (blk_l BK119.out)) : gb130 ≠ gb119))
                                have n11_ := Aside0.mk ((by rw [hg]; exact Nat.ne_of_lt (blk_lt (blk_l BK120.out)) : gb120 ≠ gb130))
                                have n12_ := Aside0.mk ((by rw [hg]; exact Nat.ne_of_gt (blk_lt (blk_l BK120.out)) : gb130 ≠ gb120))
                                clear BK118
                                clear BK119
                                clear BK120
                                clear HB
                                have BK118 := n0_
                                have BK119 := n1_
                                have BK120 := n2_
                                have HB := n3_
                                have BK130 := n4_
                                have GW130 := n5_
                                have GE130 := n6_
                                have NB118_130 := n7_
                                have NB130_118 := n8_
                                have NB119_130 := n9_
                                have NB130_119 := n10_
                                have NB120_130 := n11_
                                have NB130_120 := n12_
                                clear n0_ n1_ n2_ n3_ n4_ n5_ n6_ n7_ n8_ n9_ n10_ n11_ n12_
                                clear hb hbox hg
                                refine hK.out _ _ ⟨(blk_cell BK118.out 0).trans rfl, (blk_cell BK118.out 1).trans rfl, (blk_cell BK118.out 2).trans rfl, (blk_cell BK118.out 3).trans rfl, (blk_cell BK118.out 4).trans rfl, (blk_cell BK118.out 5).trans rfl, (blk_cell BK118.out 6).trans rfl, (blk_cell BK119.out 0).trans rfl, (blk_cell BK119.out 1).trans rfl, (blk_cell BK119.out 2).trans rfl, (blk_cell BK119.out 3).trans rfl, (blk_cell BK120.out 0).trans rfl, (blk_cell BK120.out 1).trans rfl, (blk_cell BK120.out 2).trans rfl, (blk_cell BK120.out 3).trans rfl⟩ (fun hHeld => ?_)
                                clear hK K
                                refine norm_ (a' := ?_) ?_ ?_
                                rotate_left
                                · show Act.put _ (some 13) _ = _
                                  simp only [Act.put, List.setIfInBounds_toArray, List.set_cons_zero, List.set_cons_succ, i64_w, i32_w]
                                  rfl
                                exact norm_ (by first | (simp only [putAll, Act.put, List.setIfInBounds_toArray, List.set_cons_zero, List.set_cons_succ]; done) | (simp only [putAll, Act.put, List.setIfInBounds_toArray, List.set_cons_zero, List.set_cons_succ]; rfl)) (hJ5_13 (gb130) _ ⟨hHeld, (blk_l BK118.out), (blk_l BK119.out), (blk_l BK120.out), (blk_l BK130.out), GW130.out, GE130.out, NB118_130.out, NB130_118.out, NB119_130.out, NB130_119.out, NB120_130.out, NB130_120.out, (by repeat (first | (with_reducible first | exact HB.out | apply below_alloc | apply pw_below_drewN | apply below_drew1 | refine below_set ?_ GE118.out | refine below_set ?_ GE119.out | refine below_set ?_ GE120.out | refine below_set ?_ GE130.out) | exact HB.out))⟩)
                          · skip
                            rintro ⟨gb129, gb130⟩ w28 ⟨hS_, h0_, h1_, h2_, h3_, h4_, h5_, h6_, h7_, h8_, h9_, h10_, h11_, h12_, h13_, h14_, h15_, h16_, h17_, h18_, h19_, h20_, h21_, h22_, h23_⟩
                            have n0_ : Aside0 (w28.heap[gb118]? = some (.cells #[.int .i64 a0_0, .int .i64 a0_1, .int .i64 a0_2, .int .i64 a0_3, .int .i64 a0_4, .int .i64 a0_5, .int .i64 a0_6] 29 (0, 0))) := ⟨h0_⟩
                            have n1_ : Aside0 (w28.heap[gb119]? = some (.cells #[.int .i64 a1_0, .int .i64 a1_1, .int .i64 a1_2, .int .i64 a1_3] 53 (0, 0))) := ⟨h1_⟩
                            have n2_ : Aside0 (w28.heap[gb120]? = some (.cells #[.int .i64 a1_0, .int .i64 a1_1, .int .i64 a1_2, .int .i64 a1_3] 54 (0, 0))) := ⟨h2_⟩
                            have n3_ : Aside0 (w28.heap[gb129]? = some (.cells #[.int .i64 0, .int .i64 0, .int .i64 0, .int .i64 0] 53 (0, 0))) := ⟨h3_⟩
                            have n4_ : Aside0 (w28.heap[gb130]? = some (.cells #[.int .i64 0, .int .i64 0, .int .i64 0, .int .i64 0] 54 (0, 0))) := ⟨h4_⟩
                            have n5_ : Aside0 (w.heap.size ≤ gb129) := ⟨h5_⟩
                            have n6_ : Aside0 (w.heap.size ≤ gb129) := ⟨h6_⟩
                            have n7_ : Aside0 (gb118 ≠ gb129) := ⟨h7_⟩
                            have n8_ : Aside0 (gb129 ≠ gb118) := ⟨h8_⟩
                            have n9_ : Aside0 (gb119 ≠ gb129) := ⟨h9_⟩
                            have n10_ : Aside0 (gb129 ≠ gb119) := ⟨h10_⟩
                            have n11_ : Aside0 (gb120 ≠ gb129) := ⟨h11_⟩
                            have n12_ : Aside0 (gb129 ≠ gb120) := ⟨h12_⟩
                            have n13_ : Aside0 (gb130 ≠ gb129) := ⟨h13_⟩
                            have n14_ : Aside0 (gb129 ≠ gb130) := ⟨h14_⟩
                            have n15_ : Aside0 (w.heap.size ≤ gb130) := ⟨h15_⟩
                            have n16_ : Aside0 (w.heap.size ≤ gb130) := ⟨h16_⟩
                            have n17_ : Aside0 (gb118 ≠ gb130) := ⟨h17_⟩
                            have n18_ : Aside0 (gb130 ≠ gb118) := ⟨h18_⟩
                            have n19_ : Aside0 (gb119 ≠ gb130) := ⟨h19_⟩
                            have n20_ : Aside0 (gb130 ≠ gb119) := ⟨h20_⟩
                            have n21_ : Aside0 (gb120 ≠ gb130) := ⟨h21_⟩
                            have n22_ : Aside0 (gb130 ≠ gb120) := ⟨h22_⟩
                            have n23_ : Aside0 (Below w.heap.size w w28) := ⟨h23_⟩
                            clear BK118
                            clear BK119
                            clear BK120
                            clear HB
                            clear h0_ h1_ h2_ h3_ h4_ h5_ h6_ h7_ h8_ h9_ h10_ h11_ h12_ h13_ h14_ h15_ h16_ h17_ h18_ h19_ h20_ h21_ h22_ h23_
                            have BK118 := n0_
                            have BK119 := n1_
                            have BK120 := n2_
                            have BK129 := n3_
                            have BK130 := n4_
                            have GW129 := n5_
                            have GE129 := n6_
                            have NB118_129 := n7_
                            have NB129_118 := n8_
                            have NB119_129 := n9_
                            have NB129_119 := n10_
                            have NB120_129 := n11_
                            have NB129_120 := n12_
                            have NB130_129 := n13_
                            have NB129_130 := n14_
                            have GW130 := n15_
                            have GE130 := n16_
                            have NB118_130 := n17_
                            have NB130_118 := n18_
                            have NB119_130 := n19_
                            have NB130_119 := n20_
                            have NB120_130 := n21_
                            have NB130_120 := n22_
                            have HB := n23_
                            clear n0_ n1_ n2_ n3_ n4_ n5_ n6_ n7_ n8_ n9_ n10_ n11_ n12_ n13_ n14_ n15_ n16_ n17_ n18_ n19_ n20_ n21_ n22_ n23_
                            have hHeld : w28.cell? ⟨gb118, 0, none⟩ = some (.int .i64 a0_0) ∧ w28.cell? ⟨gb118, 1, none⟩ = some (.int .i64 a0_1) ∧ w28.cell? ⟨gb118, 2, none⟩ = some (.int .i64 a0_2) ∧ w28.cell? ⟨gb118, 3, none⟩ = some (.int .i64 a0_3) ∧ w28.cell? ⟨gb118, 4, none⟩ = some (.int .i64 a0_4) ∧ w28.cell? ⟨gb118, 5, none⟩ = some (.int .i64 a0_5) ∧ w28.cell? ⟨gb118, 6, none⟩ = some (.int .i64 a0_6) ∧ w28.cell? ⟨gb119, 0, none⟩ = some (.int .i64 a1_0) ∧ w28.cell? ⟨gb119, 1, none⟩ = some (.int .i64 a1_1) ∧ w28.cell? ⟨gb119, 2, none⟩ = some (.int .i64 a1_2) ∧ w28.cell? ⟨gb119, 3, none⟩ = some (.int .i64 a1_3) ∧ w28.cell? ⟨gb120, 0, none⟩ = some (.int .i64 a1_0) ∧ w28.cell? ⟨gb120, 1, none⟩ = some (.int .i64 a1_1) ∧ w28.cell? ⟨gb120, 2, none⟩ = some (.int .i64 a1_2) ∧ w28.cell? ⟨gb120, 3, none⟩ = some (.int .i64 a1_3) := hS_
                            refine norm_ (a' := ?_) ?_ ?_
                            rotate_left
                            · simp only [putAll, Act.put, List.setIfInBounds_toArray, List.set_cons_zero, List.set_cons_succ]
                              rfl
                            refine one_ (i := 5) (N := some 28) #[true, true, true, true, true, true, true, true, true, true, true, false, true, true, false, false] rfl rfl (one_of HT_.out (by kernel_rfl)) (by decide) (fun K hK => ?_)
                            refine goes_ Try.func27 (by kernel_rfl) rfl #[.agg #[.int .i64 a0_0, .int .i64 a0_1, .int .i64 a0_2, .int .i64 a0_3, .int .i64 a0_4, .int .i64 a0_5, .int .i64 a0_6], .agg #[.int .i64 a1_0, .int .i64 a1_1, .int .i64 a1_2, .int .i64 a1_3], .int .i64 a2, .int .i64 a3, .int .i64 a4] (by rfl) rfl rfl (by (try simp only [List.map_toArray, List.map_cons, List.map_nil]); first | done | rfl | (simp only [List.length_drop, List.length_take]; rfl)) ?_
                            with_reducible refine (quota_Next.calls a0_0 a0_1 a0_2 a0_3 a0_4 a0_5 a0_6 a1_0 a1_1 a1_2 a1_3 a2 a3 a4 t121 t122 t123 t124 _ A6.out).mono ?_
                            rintro e w29 ⟨rfl, hb⟩
                            refine ⟨_, rfl, ?_⟩
                            have n0_ := Aside0.mk (blk_below (blk_l BK118.out) hb)
                            have n1_ := Aside0.mk (blk_below (blk_l BK119.out) hb)
                            have n2_ := Aside0.mk (blk_below (blk_l BK120.out) hb)
                            have n3_ := Aside0.mk (blk_below (blk_l BK129.out) hb)
                            have n4_ := Aside0.mk (blk_below (blk_l BK130.out) hb)
                            have n5_ := Aside0.mk (below_step (by repeat (first | (with_reducible first | exact HB.out | apply below_alloc | apply pw_below_drewN | apply below_drew1 | refine below_set ?_ GE118.out | refine below_set ?_ GE119.out | refine below_set ?_ GE120.out | refine below_set ?_ GE129.out | refine below_set ?_ GE130.out) | exact HB.out)) hb)
                            clear BK118
                            clear BK119
                            clear BK120
                            clear BK129
                            clear BK130
                            clear HB
                            have BK118 := n0_
                            have BK119 := n1_
                            have BK120 := n2_
                            have BK129 := n3_
                            have BK130 := n4_
                            have HB := n5_
                            clear n0_ n1_ n2_ n3_ n4_ n5_
                            (try clear hb)
                            (try clear hb2)
                            (try clear hk)
                            (try clear hi)
                            refine hK.out _ _ ⟨(blk_cell BK118.out 0).trans rfl, (blk_cell BK118.out 1).trans rfl, (blk_cell BK118.out 2).trans rfl, (blk_cell BK118.out 3).trans rfl, (blk_cell BK118.out 4).trans rfl, (blk_cell BK118.out 5).trans rfl, (blk_cell BK118.out 6).trans rfl, (blk_cell BK119.out 0).trans rfl, (blk_cell BK119.out 1).trans rfl, (blk_cell BK119.out 2).trans rfl, (blk_cell BK119.out 3).trans rfl, (blk_cell BK120.out 0).trans rfl, (blk_cell BK120.out 1).trans rfl, (blk_cell BK120.out 2).trans rfl, (blk_cell BK120.out 3).trans rfl⟩ (fun hHeld => ?_)
                            clear hK K
                            refine norm_ (a' := ?_) ?_ ?_
                            rotate_left
                            · show Act.put _ (some 28) _ = _
                              simp only [Act.put, List.setIfInBounds_toArray, List.set_cons_zero, List.set_cons_succ, i64_w, i32_w]
                              rfl
                            exact norm_ (by first | (simp only [putAll, Act.put, List.setIfInBounds_toArray, List.set_cons_zero, List.set_cons_succ]; done) | (simp only [putAll, Act.put, List.setIfInBounds_toArray, List.set_cons_zero, List.set_cons_succ]; rfl)) (hJ5_12_13 (gb129, gb130) _ ⟨hHeld, (blk_l BK118.out), (blk_l BK119.out), (blk_l BK120.out), (blk_l BK129.out), (blk_l BK130.out), GW129.out, GE129.out, NB118_129.out, NB129_118.out, NB119_129.out, NB129_119.out, NB120_129.out, NB129_120.out, NB130_129.out, NB129_130.out, GW130.out, GE130.out, NB118_130.out, NB130_118.out, NB119_130.out, NB130_119.out, NB120_130.out, NB130_120.out, (by repeat (first | (with_reducible first | exact HB.out | apply below_alloc | apply pw_below_drewN | apply below_drew1 | refine below_set ?_ GE118.out | refine below_set ?_ GE119.out | refine below_set ?_ GE120.out | refine below_set ?_ GE129.out | refine below_set ?_ GE130.out) | exact HB.out))⟩)
                        · skip
                          rintro gb130 w28 ⟨hS_, h0_, h1_, h2_, h3_, h4_, h5_, h6_, h7_, h8_, h9_, h10_, h11_, h12_⟩
                          have n0_ : Aside0 (w28.heap[gb118]? = some (.cells #[.int .i64 a0_0, .int .i64 a0_1, .int .i64 a0_2, .int .i64 a0_3, .int .i64 a0_4, .int .i64 a0_5, .int .i64 a0_6] 29 (0, 0))) := ⟨h0_⟩
                          have n1_ : Aside0 (w28.heap[gb119]? = some (.cells #[.int .i64 a1_0, .int .i64 a1_1, .int .i64 a1_2, .int .i64 a1_3] 53 (0, 0))) := ⟨h1_⟩
                          have n2_ : Aside0 (w28.heap[gb120]? = some (.cells #[.int .i64 a1_0, .int .i64 a1_1, .int .i64 a1_2, .int .i64 a1_3] 54 (0, 0))) := ⟨h2_⟩
                          have n3_ : Aside0 (w28.heap[gb130]? = some (.cells #[.int .i64 0, .int .i64 0, .int .i64 0, .int .i64 0] 54 (0, 0))) := ⟨h3_⟩
                          have n4_ : Aside0 (w.heap.size ≤ gb130) := ⟨h4_⟩
                          have n5_ : Aside0 (w.heap.size ≤ gb130) := ⟨h5_⟩
                          have n6_ : Aside0 (gb118 ≠ gb130) := ⟨h6_⟩
                          have n7_ : Aside0 (gb130 ≠ gb118) := ⟨h7_⟩
                          have n8_ : Aside0 (gb119 ≠ gb130) := ⟨h8_⟩
                          have n9_ : Aside0 (gb130 ≠ gb119) := ⟨h9_⟩
                          have n10_ : Aside0 (gb120 ≠ gb130) := ⟨h10_⟩
                          have n11_ : Aside0 (gb130 ≠ gb120) := ⟨h11_⟩
                          have n12_ : Aside0 (Below w.heap.size w w28) := ⟨h12_⟩
                          clear BK118
                          clear BK119
                          clear BK120
                          clear HB
                          clear h0_ h1_ h2_ h3_ h4_ h5_ h6_ h7_ h8_ h9_ h10_ h11_ h12_
                          have BK118 := n0_
                          have BK119 := n1_
                          have BK120 := n2_
                          have BK130 := n3_
                          have GW130 := n4_
                          have GE130 := n5_
                          have NB118_130 := n6_
                          have NB130_118 := n7_
                          have NB119_130 := n8_
                          have NB130_119 := n9_
                          have NB120_130 := n10_
                          have NB130_120 := n11_
                          have HB := n12_
                          clear n0_ n1_ n2_ n3_ n4_ n5_ n6_ n7_ n8_ n9_ n10_ n11_ n12_
                          have hHeld : w28.cell? ⟨gb118, 0, none⟩ = some (.int .i64 a0_0) ∧ w28.cell? ⟨gb118, 1, none⟩ = some (.int .i64 a0_1) ∧ w28.cell? ⟨gb118, 2, none⟩ = some (.int .i64 a0_2) ∧ w28.cell? ⟨gb118, 3, none⟩ = some (.int .i64 a0_3) ∧ w28.cell? ⟨gb118, 4, none⟩ = some (.int .i64 a0_4) ∧ w28.cell? ⟨gb118, 5, none⟩ = some (.int .i64 a0_5) ∧ w28.cell? ⟨gb118, 6, none⟩ = some (.int .i64 a0_6) ∧ w28.cell? ⟨gb119, 0, none⟩ = some (.int .i64 a1_0) ∧ w28.cell? ⟨gb119, 1, none⟩ = some (.int .i64 a1_1) ∧ w28.cell? ⟨gb119, 2, none⟩ = some (.int .i64 a1_2) ∧ w28.cell? ⟨gb119, 3, none⟩ = some (.int .i64 a1_3) ∧ w28.cell? ⟨gb120, 0, none⟩ = some (.int .i64 a1_0) ∧ w28.cell? ⟨gb120, 1, none⟩ = some (.int .i64 a1_1) ∧ w28.cell? ⟨gb120, 2, none⟩ = some (.int .i64 a1_2) ∧ w28.cell? ⟨gb120, 3, none⟩ = some (.int .i64 a1_3) := hS_
                          refine norm_ (a' := ?_) ?_ ?_
                          rotate_left
                          · simp only [putAll, Act.put, List.setIfInBounds_toArray, List.set_cons_zero, List.set_cons_succ]
                            rfl
                          refine two_ (i := 11) (j := 12) (Ni := some 34) (Nj := some 12) #[true, true, true, true, true, true, true, true, true, true, true, true, false, true, false, false] #[true, true, true, true, true, true, true, true, true, true, true, false, true, true, false, false] rfl rfl rfl rfl (two_of HT_.out (by kernel_rfl)) (by decide) (by decide) (fun K hK => ?_) (fun K hK => ?_)
                          · skip
                            refine goes_ Try.func28 (by kernel_rfl) rfl #[.agg #[.int .i64 a0_0, .int .i64 a0_1, .int .i64 a0_2, .int .i64 a0_3, .int .i64 a0_4, .int .i64 a0_5, .int .i64 a0_6], .agg #[.int .i64 a1_0, .int .i64 a1_1, .int .i64 a1_2, .int .i64 a1_3], .int .i64 a2, .int .i64 a3, .int .i64 a4] (by rfl) rfl rfl (by (try simp only [List.map_toArray, List.map_cons, List.map_nil]); first | done | rfl | (simp only [List.length_drop, List.length_take]; rfl)) ?_
                            with_reducible refine (beguinageref22_Next.calls a0_0 a0_1 a0_2 a0_3 a0_4 a0_5 a0_6 a1_0 a1_1 a1_2 a1_3 a2 a3 a4 t125 t126 t127 t128 _ A7.out).mono ?_
                            rintro e w29 ⟨rfl, hb⟩
                            refine ⟨_, rfl, ?_⟩
                            have n0_ := Aside0.mk (blk_below (blk_l BK118.out) hb)
                            have n1_ := Aside0.mk (blk_below (blk_l BK119.out) hb)
                            have n2_ := Aside0.mk (blk_below (blk_l BK120.out) hb)
                            have n3_ := Aside0.mk (blk_below (blk_l BK130.out) hb)
                            have n4_ := Aside0.mk (below_step (by repeat (first | (with_reducible first | exact HB.out | apply below_alloc | apply pw_below_drewN | apply below_drew1 | refine below_set ?_ GE118.out | refine below_set ?_ GE119.out | refine below_set ?_ GE120.out | refine below_set ?_ GE130.out) | exact HB.out)) hb)
                            clear BK118
                            clear BK119
                            clear BK120
                            clear BK130
                            clear HB
                            have BK118 := n0_
                            have BK119 := n1_
                            have BK120 := n2_
                            have BK130 := n3_
                            have HB := n4_
                            clear n0_ n1_ n2_ n3_ n4_
                            (try clear hb)
                            (try clear hb2)
                            (try clear hk)
                            (try clear hi)
                            refine hK.out _ _ ⟨(blk_cell BK118.out 0).trans rfl, (blk_cell BK118.out 1).trans rfl, (blk_cell BK118.out 2).trans rfl, (blk_cell BK118.out 3).trans rfl, (blk_cell BK118.out 4).trans rfl, (blk_cell BK118.out 5).trans rfl, (blk_cell BK118.out 6).trans rfl, (blk_cell BK119.out 0).trans rfl, (blk_cell BK119.out 1).trans rfl, (blk_cell BK119.out 2).trans rfl, (blk_cell BK119.out 3).trans rfl, (blk_cell BK120.out 0).trans rfl, (blk_cell BK120.out 1).trans rfl, (blk_cell BK120.out 2).trans rfl, (blk_cell BK120.out 3).trans rfl⟩ (fun hHeld => ?_)
                            clear hK K
                            refine norm_ (a' := ?_) ?_ ?_
                            rotate_left
                            · show Act.put _ (some 34) _ = _
                              simp only [Act.put, List.setIfInBounds_toArray, List.set_cons_zero, List.set_cons_succ, i64_w, i32_w]
                              rfl
                            exact norm_ (by first | (simp only [putAll, Act.put, List.setIfInBounds_toArray, List.set_cons_zero, List.set_cons_succ]; done) | (simp only [putAll, Act.put, List.setIfInBounds_toArray, List.set_cons_zero, List.set_cons_succ]; rfl)) (hJ5_11_13 (gb130) _ ⟨hHeld, (blk_l BK118.out), (blk_l BK119.out), (blk_l BK120.out), (blk_l BK130.out), GW130.out, GE130.out, NB118_130.out, NB130_118.out, NB119_130.out, NB130_119.out, NB120_130.out, NB130_120.out, (by repeat (first | (with_reducible first | exact HB.out | apply below_alloc | apply pw_below_drewN | apply below_drew1 | refine below_set ?_ GE118.out | refine below_set ?_ GE119.out | refine below_set ?_ GE120.out | refine below_set ?_ GE130.out) | exact HB.out))⟩)
                          · skip
                            refine box_step ?hg (N := 12) ?hd (cs := #[.int .i64 0, .int .i64 0, .int .i64 0, .int .i64 0]) (t := 53) ?hr ?_; (case hd => rfl); (case hg => rfl); (case hr => first | (go_simp; done) | (go_simp; rfl))
                            intro gb129 hg w29 hbox hb
                            have n0_ := Aside0.mk (blk_below (blk_l BK118.out) hb)
                            have n1_ := Aside0.mk (blk_below (blk_l BK119.out) hb)
                            have n2_ := Aside0.mk (blk_below (blk_l BK120.out) hb)
                            have n3_ := Aside0.mk (blk_below (blk_l BK130.out) hb)
                            have n4_ := Aside0.mk (below_step (by repeat (first | (with_reducible first | exact HB.out | apply below_alloc | apply pw_below_drewN | apply below_drew1 | refine below_set ?_ GE118.out | refine below_set ?_ GE119.out | refine below_set ?_ GE120.out | refine below_set ?_ GE130.out) | exact HB.out)) hb)
                            have n5_ := Aside0.mk (hbox)
                            have n6_ := Aside0.mk ((by rw [hg]; exact (below_size (by repeat (first | (with_reducible first | exact HB.out | apply below_alloc | apply pw_below_drewN | apply below_drew1 | refine below_set ?_ GE118.out | refine below_set ?_ GE119.out | refine below_set ?_ GE120.out | refine below_set ?_ GE130.out) | exact HB.out))) : w.heap.size ≤ gb129))
                            have n7_ := Aside0.mk ((by rw [hg]; exact (below_size (by repeat (first | (with_reducible first | exact HB.out | apply below_alloc | apply pw_below_drewN | apply below_drew1 | refine below_set ?_ GE118.out | refine below_set ?_ GE119.out | refine below_set ?_ GE120.out | refine below_set ?_ GE130.out) | exact HB.out))) : w.heap.size ≤ gb129))
                            have n8_ := Aside0.mk ((by rw [hg]; exact Nat.ne_of_lt (blk_lt (blk_l BK118.out)) : gb118 ≠ gb129))
                            have n9_ := Aside0.mk ((by rw [hg]; exact Nat.ne_of_gt (blk_lt (blk_l BK118.out)) : gb129 ≠ gb118))
                            have n10_ := Aside0.mk ((by rw [hg]; exact Nat.ne_of_lt (blk_lt (blk_l BK119.out)) : gb119 ≠ gb129))
                            have n11_ := Aside0.mk ((by rw [hg]; exact Nat.ne_of_gt (blk_lt (blk_l BK119.out)) : gb129 ≠ gb119))
                            have n12_ := Aside0.mk ((by rw [hg]; exact Nat.ne_of_lt (blk_lt (blk_l BK120.out)) : gb120 ≠ gb129))
                            have n13_ := Aside0.mk ((by rw [hg]; exact Nat.ne_of_gt (blk_lt (blk_l BK120.out)) : gb129 ≠ gb120))
                            have n14_ := Aside0.mk ((by rw [hg]; exact Nat.ne_of_lt (blk_lt (blk_l BK130.out)) : gb130 ≠ gb129))
                            have n15_ := Aside0.mk ((by rw [hg]; exact Nat.ne_of_gt (blk_lt (blk_l BK130.out)) : gb129 ≠ gb130))
                            clear BK118
                            clear BK119
                            clear BK120
                            clear BK130
                            clear HB
                            have BK118 := n0_
                            have BK119 := n1_
                            have BK120 := n2_
                            have BK130 := n3_
                            have HB := n4_
                            have BK129 := n5_
                            have GW129 := n6_
                            have GE129 := n7_
                            have NB118_129 := n8_
                            have NB129_118 := n9_
                            have NB119_129 := n10_
                            have NB129_119 := n11_
                            have NB120_129 := n12_
                            have NB129_120 := n13_
                            have NB130_129 := n14_
                            have NB129_130 := n15_
                            clear n0_ n1_ n2_ n3_ n4_ n5_ n6_ n7_ n8_ n9_ n10_ n11_ n12_ n13_ n14_ n15_
                            clear hb hbox hg
                            refine hK.out _ _ ⟨(blk_cell BK118.out 0).trans rfl, (blk_cell BK118.out 1).trans rfl, (blk_cell BK118.out 2).trans rfl, (blk_cell BK118.out 3).trans rfl, (blk_cell BK118.out 4).trans rfl, (blk_cell BK118.out 5).trans rfl, (blk_cell BK118.out 6).trans rfl, (blk_cell BK119.out 0).trans rfl, (blk_cell BK119.out 1).trans rfl, (blk_cell BK119.out 2).trans rfl, (blk_cell BK119.out 3).trans rfl, (blk_cell BK120.out 0).trans rfl, (blk_cell BK120.out 1).trans rfl, (blk_cell BK120.out 2).trans rfl, (blk_cell BK120.out 3).trans rfl⟩ (fun hHeld => ?_)
                            clear hK K
                            refine norm_ (a' := ?_) ?_ ?_
                            rotate_left
                            · show Act.put _ (some 12) _ = _
                              simp only [Act.put, List.setIfInBounds_toArray, List.set_cons_zero, List.set_cons_succ, i64_w, i32_w]
                              rfl
                            exact norm_ (by first | (simp only [putAll, Act.put, List.setIfInBounds_toArray, List.set_cons_zero, List.set_cons_succ]; done) | (simp only [putAll, Act.put, List.setIfInBounds_toArray, List.set_cons_zero, List.set_cons_succ]; rfl)) (hJ5_12_13 (gb129, gb130) _ ⟨hHeld, (blk_l BK118.out), (blk_l BK119.out), (blk_l BK120.out), (blk_l BK129.out), (blk_l BK130.out), GW129.out, GE129.out, NB118_129.out, NB129_118.out, NB119_129.out, NB129_119.out, NB120_129.out, NB129_120.out, NB130_129.out, NB129_130.out, GW130.out, GE130.out, NB118_130.out, NB130_118.out, NB119_130.out, NB130_119.out, NB120_130.out, NB130_120.out, (by repeat (first | (with_reducible first | exact HB.out | apply below_alloc | apply pw_below_drewN | apply below_drew1 | refine below_set ?_ GE118.out | refine below_set ?_ GE119.out | refine below_set ?_ GE120.out | refine below_set ?_ GE130.out | refine below_set ?_ GE129.out) | exact HB.out))⟩)
                      · skip
                        rintro gb129 w28 ⟨hS_, h0_, h1_, h2_, h3_, h4_, h5_, h6_, h7_, h8_, h9_, h10_, h11_, h12_⟩
                        have n0_ : Aside0 (w28.heap[gb118]? = some (.cells #[.int .i64 a0_0, .int .i64 a0_1, .int .i64 a0_2, .int .i64 a0_3, .int .i64 a0_4, .int .i64 a0_5, .int .i64 a0_6] 29 (0, 0))) := ⟨h0_⟩
                        have n1_ : Aside0 (w28.heap[gb119]? = some (.cells #[.int .i64 a1_0, .int .i64 a1_1, .int .i64 a1_2, .int .i64 a1_3] 53 (0, 0))) := ⟨h1_⟩
                        have n2_ : Aside0 (w28.heap[gb120]? = some (.cells #[.int .i64 a1_0, .int .i64 a1_1, .int .i64 a1_2, .int .i64 a1_3] 54 (0, 0))) := ⟨h2_⟩
                        have n3_ : Aside0 (w28.heap[gb129]? = some (.cells #[.int .i64 0, .int .i64 0, .int .i64 0, .int .i64 0] 53 (0, 0))) := ⟨h3_⟩
                        have n4_ : Aside0 (w.heap.size ≤ gb129) := ⟨h4_⟩
                        have n5_ : Aside0 (w.heap.size ≤ gb129) := ⟨h5_⟩
                        have n6_ : Aside0 (gb118 ≠ gb129) := ⟨h6_⟩
                        have n7_ : Aside0 (gb129 ≠ gb118) := ⟨h7_⟩
                        have n8_ : Aside0 (gb119 ≠ gb129) := ⟨h8_⟩
                        have n9_ : Aside0 (gb129 ≠ gb119) := ⟨h9_⟩
                        have n10_ : Aside0 (gb120 ≠ gb129) := ⟨h10_⟩
                        have n11_ : Aside0 (gb129 ≠ gb120) := ⟨h11_⟩
                        have n12_ : Aside0 (Below w.heap.size w w28) := ⟨h12_⟩
                        clear BK118
                        clear BK119
                        clear BK120
                        clear HB
                        clear h0_ h1_ h2_ h3_ h4_ h5_ h6_ h7_ h8_ h9_ h10_ h11_ h12_
                        have BK118 := n0_
                        have BK119 := n1_
                        have BK120 := n2_
                        have BK129 := n3_
                        have GW129 := n4_
                        have GE129 := n5_
                        have NB118_129 := n6_
                        have NB129_118 := n7_
                        have NB119_129 := n8_
                        have NB129_119 := n9_
                        have NB120_129 := n10_
                        have NB129_120 := n11_
                        have HB := n12_
                        clear n0_ n1_ n2_ n3_ n4_ n5_ n6_ n7_ n8_ n9_ n10_ n11_ n12_
                        have hHeld : w28.cell? ⟨gb118, 0, none⟩ = some (.int .i64 a0_0) ∧ w28.cell? ⟨gb118, 1, none⟩ = some (.int .i64 a0_1) ∧ w28.cell? ⟨gb118, 2, none⟩ = some (.int .i64 a0_2) ∧ w28.cell? ⟨gb118, 3, none⟩ = some (.int .i64 a0_3) ∧ w28.cell? ⟨gb118, 4, none⟩ = some (.int .i64 a0_4) ∧ w28.cell? ⟨gb118, 5, none⟩ = some (.int .i64 a0_5) ∧ w28.cell? ⟨gb118, 6, none⟩ = some (.int .i64 a0_6) ∧ w28.cell? ⟨gb119, 0, none⟩ = some (.int .i64 a1_0) ∧ w28.cell? ⟨gb119, 1, none⟩ = some (.int .i64 a1_1) ∧ w28.cell? ⟨gb119, 2, none⟩ = some (.int .i64 a1_2) ∧ w28.cell? ⟨gb119, 3, none⟩ = some (.int .i64 a1_3) ∧ w28.cell? ⟨gb120, 0, none⟩ = some (.int .i64 a1_0) ∧ w28.cell? ⟨gb120, 1, none⟩ = some (.int .i64 a1_1) ∧ w28.cell? ⟨gb120, 2, none⟩ = some (.int .i64 a1_2) ∧ w28.cell? ⟨gb120, 3, none⟩ = some (.int .i64 a1_3) := hS_
                        refine norm_ (a' := ?_) ?_ ?_
                        rotate_left
                        · simp only [putAll, Act.put, List.setIfInBounds_toArray, List.set_cons_zero, List.set_cons_succ]
                          rfl
                        refine two_ (i := 11) (j := 13) (Ni := some 34) (Nj := some 13) #[true, true, true, true, true, true, true, true, true, true, true, true, true, false, false, false] #[true, true, true, true, true, true, true, true, true, true, true, false, true, true, false, false] rfl rfl rfl rfl (two_of HT_.out (by kernel_rfl)) (by decide) (by decide) (fun K hK => ?_) (fun K hK => ?_)
                        · skip
                          refine goes_ Try.func28 (by kernel_rfl) rfl #[.agg #[.int .i64 a0_0, .int .i64 a0_1, .int .i64 a0_2, .int .i64 a0_3, .int .i64 a0_4, .int .i64 a0_5, .int .i64 a0_6], .agg #[.int .i64 a1_0, .int .i64 a1_1, .int .i64 a1_2, .int .i64 a1_3], .int .i64 a2, .int .i64 a3, .int .i64 a4] (by rfl) rfl rfl (by (try simp only [List.map_toArray, List.map_cons, List.map_nil]); first | done | rfl | (simp only [List.length_drop, List.length_take]; rfl)) ?_
                          with_reducible refine (beguinageref22_Next.calls a0_0 a0_1 a0_2 a0_3 a0_4 a0_5 a0_6 a1_0 a1_1 a1_2 a1_3 a2 a3 a4 t125 t126 t127 t128 _ A7.out).mono ?_
                          rintro e w29 ⟨rfl, hb⟩
                          refine ⟨_, rfl, ?_⟩
                          have n0_ := Aside0.mk (blk_below (blk_l BK118.out) hb)
                          have n1_ := Aside0.mk (blk_below (blk_l BK119.out) hb)
                          have n2_ := Aside0.mk (blk_below (blk_l BK120.out) hb)
                          have n3_ := Aside0.mk (blk_below (blk_l BK129.out) hb)
                          have n4_ := Aside0.mk (below_step (by repeat (first | (with_reducible first | exact HB.out | apply below_alloc | apply pw_below_drewN | apply below_drew1 | refine below_set ?_ GE118.out | refine below_set ?_ GE119.out | refine below_set ?_ GE120.out | refine below_set ?_ GE129.out) | exact HB.out)) hb)
                          clear BK118
                          clear BK119
                          clear BK120
                          clear BK129
                          clear HB
                          have BK118 := n0_
                          have BK119 := n1_
                          have BK120 := n2_
                          have BK129 := n3_
                          have HB := n4_
                          clear n0_ n1_ n2_ n3_ n4_
                          (try clear hb)
                          (try clear hb2)
                          (try clear hk)
                          (try clear hi)
                          refine hK.out _ _ ⟨(blk_cell BK118.out 0).trans rfl, (blk_cell BK118.out 1).trans rfl, (blk_cell BK118.out 2).trans rfl, (blk_cell BK118.out 3).trans rfl, (blk_cell BK118.out 4).trans rfl, (blk_cell BK118.out 5).trans rfl, (blk_cell BK118.out 6).trans rfl, (blk_cell BK119.out 0).trans rfl, (blk_cell BK119.out 1).trans rfl, (blk_cell BK119.out 2).trans rfl, (blk_cell BK119.out 3).trans rfl, (blk_cell BK120.out 0).trans rfl, (blk_cell BK120.out 1).trans rfl, (blk_cell BK120.out 2).trans rfl, (blk_cell BK120.out 3).trans rfl⟩ (fun hHeld => ?_)
                          clear hK K
                          refine norm_ (a' := ?_) ?_ ?_
                          rotate_left
                          · show Act.put _ (some 34) _ = _
                            simp only [Act.put, List.setIfInBounds_toArray, List.set_cons_zero, List.set_cons_succ, i64_w, i32_w]
                            rfl
                          exact norm_ (by first | (simp only [putAll, Act.put, List.setIfInBounds_toArray, List.set_cons_zero, List.set_cons_succ]; done) | (simp only [putAll, Act.put, List.setIfInBounds_toArray, List.set_cons_zero, List.set_cons_succ]; rfl)) (hJ5_11_12 (gb129) _ ⟨hHeld, (blk_l BK118.out), (blk_l BK119.out), (blk_l BK120.out), (blk_l BK129.out), GW129.out, GE129.out, NB118_129.out, NB129_118.out, NB119_129.out, NB129_119.out, NB120_129.out, NB129_120.out, (by repeat (first | (with_reducible first | exact HB.out | apply below_alloc | apply pw_below_drewN | apply below_drew1 | refine below_set ?_ GE118.out | refine below_set ?_ GE119.out | refine below_set ?_ GE120.out | refine below_set ?_ GE129.out) | exact HB.out))⟩)
                        · skip
                          refine box_step ?hg (N := 13) ?hd (cs := #[.int .i64 0, .int .i64 0, .int .i64 0, .int .i64 0]) (t := 54) ?hr ?_; (case hd => rfl); (case hg => rfl); (case hr => first | (go_simp; done) | (go_simp; rfl))
                          intro gb130 hg w29 hbox hb
                          have n0_ := Aside0.mk (blk_below (blk_l BK118.out) hb)
                          have n1_ := Aside0.mk (blk_below (blk_l BK119.out) hb)
                          have n2_ := Aside0.mk (blk_below (blk_l BK120.out) hb)
                          have n3_ := Aside0.mk (blk_below (blk_l BK129.out) hb)
                          have n4_ := Aside0.mk (below_step (by repeat (first | (with_reducible first | exact HB.out | apply below_alloc | apply pw_below_drewN | apply below_drew1 | refine below_set ?_ GE118.out | refine below_set ?_ GE119.out | refine below_set ?_ GE120.out | refine below_set ?_ GE129.out) | exact HB.out)) hb)
                          have n5_ := Aside0.mk (hbox)
                          have n6_ := Aside0.mk ((by rw [hg]; exact (below_size (by repeat (first | (with_reducible first | exact HB.out | apply below_alloc | apply pw_below_drewN | apply below_drew1 | refine below_set ?_ GE118.out | refine below_set ?_ GE119.out | refine below_set ?_ GE120.out | refine below_set ?_ GE129.out) | exact HB.out))) : w.heap.size ≤ gb130))
                          have n7_ := Aside0.mk ((by rw [hg]; exact (below_size (by repeat (first | (with_reducible first | exact HB.out | apply below_alloc | apply pw_below_drewN | apply below_drew1 | refine below_set ?_ GE118.out | refine below_set ?_ GE119.out | refine below_set ?_ GE120.out | refine below_set ?_ GE129.out) | exact HB.out))) : w.heap.size ≤ gb130))
                          have n8_ := Aside0.mk ((by rw [hg]; exact Nat.ne_of_lt (blk_lt (blk_l BK118.out)) : gb118 ≠ gb130))
                          have n9_ := Aside0.mk ((by rw [hg]; exact Nat.ne_of_gt (blk_lt (blk_l BK118.out)) : gb130 ≠ gb118))
                          have n10_ := Aside0.mk ((by rw [hg]; exact Nat.ne_of_lt (blk_lt (blk_l BK119.out)) : gb119 ≠ gb130))
                          have n11_ := Aside0.mk ((by rw [hg]; exact Nat.ne_of_gt (blk_lt (blk_l BK119.out)) : gb130 ≠ gb119))
                          have n12_ := Aside0.mk ((by rw [hg]; exact Nat.ne_of_lt (blk_lt (blk_l BK120.out)) : gb120 ≠ gb130))
                          have n13_ := Aside0.mk ((by rw [hg]; exact Nat.ne_of_gt (blk_lt (blk_l BK120.out)) : gb130 ≠ gb120))
                          have n14_ := Aside0.mk ((by rw [hg]; exact Nat.ne_of_lt (blk_lt (blk_l BK129.out)) : gb129 ≠ gb130))
                          have n15_ := Aside0.mk ((by rw [hg]; exact Nat.ne_of_gt (blk_lt (blk_l BK129.out)) : gb130 ≠ gb129))
                          clear BK118
                          clear BK119
                          clear BK120
                          clear BK129
                          clear HB
                          have BK118 := n0_
                          have BK119 := n1_
                          have BK120 := n2_
                          have BK129 := n3_
                          have HB := n4_
                          have BK130 := n5_
                          have GW130 := n6_
                          have GE130 := n7_
                          have NB118_130 := n8_
                          have NB130_118 := n9_
                          have NB119_130 := n10_
                          have NB130_119 := n11_
                          have NB120_130 := n12_
                          have NB130_120 := n13_
                          have NB129_130 := n14_
                          have NB130_129 := n15_
                          clear n0_ n1_ n2_ n3_ n4_ n5_ n6_ n7_ n8_ n9_ n10_ n11_ n12_ n13_ n14_ n15_
                          clear hb hbox hg
                          refine hK.out _ _ ⟨(blk_cell BK118.out 0).trans rfl, (blk_cell BK118.out 1).trans rfl, (blk_cell BK118.out 2).trans rfl, (blk_cell BK118.out 3).trans rfl, (blk_cell BK118.out 4).trans rfl, (blk_cell BK118.out 5).trans rfl, (blk_cell BK118.out 6).trans rfl, (blk_cell BK119.out 0).trans rfl, (blk_cell BK119.out 1).trans rfl, (blk_cell BK119.out 2).trans rfl, (blk_cell BK119.out 3).trans rfl, (blk_cell BK120.out 0).trans rfl, (blk_cell BK120.out 1).trans rfl, (blk_cell BK120.out 2).trans rfl, (blk_cell BK120.out 3).trans rfl⟩ (fun hHeld => ?_)
                          clear hK K
                          refine norm_ (a' := ?_) ?_ ?_
                          rotate_left
                          · show Act.put _ (some 13) _ = _
                            simp only [Act.put, List.setIfInBounds_toArray, List.set_cons_zero, List.set_cons_succ, i64_w, i32_w]
                            rfl
                          exact norm_ (by first | (simp only [putAll, Act.put, List.setIfInBounds_toArray, List.set_cons_zero, List.set_cons_succ]; done) | (simp only [putAll, Act.put, List.setIfInBounds_toArray, List.set_cons_zero, List.set_cons_succ]; rfl)) (hJ5_12_13 (gb129, gb130) _ ⟨hHeld, (blk_l BK118.out), (blk_l BK119.out), (blk_l BK120.out), (blk_l BK129.out), (blk_l BK130.out), GW129.out, GE129.out, NB118_129.out, NB129_118.out, NB119_129.out, NB129_119.out, NB120_129.out, NB129_120.out, NB130_129.out, NB129_130.out, GW130.out, GE130.out, NB118_130.out, NB130_118.out, NB119_130.out, NB130_119.out, NB120_130.out, NB130_120.out, (by repeat (first | (with_reducible first | exact HB.out | apply below_alloc | apply pw_below_drewN | apply below_drew1 | refine below_set ?_ GE118.out | refine below_set ?_ GE119.out | refine below_set ?_ GE120.out | refine below_set ?_ GE129.out | refine below_set ?_ GE130.out) | exact HB.out))⟩)
                    · skip
                      rintro _ w28 ⟨hS_, h0_, h1_, h2_, h3_⟩
                      have n0_ : Aside0 (w28.heap[gb118]? = some (.cells #[.int .i64 a0_0, .int .i64 a0_1, .int .i64 a0_2, .int .i64 a0_3, .int .i64 a0_4, .int .i64 a0_5, .int .i64 a0_6] 29 (0, 0))) := ⟨h0_⟩
                      have n1_ : Aside0 (w28.heap[gb119]? = some (.cells #[.int .i64 a1_0, .int .i64 a1_1, .int .i64 a1_2, .int .i64 a1_3] 53 (0, 0))) := ⟨h1_⟩
                      have n2_ : Aside0 (w28.heap[gb120]? = some (.cells #[.int .i64 a1_0, .int .i64 a1_1, .int .i64 a1_2, .int .i64 a1_3] 54 (0, 0))) := ⟨h2_⟩
                      have n3_ : Aside0 (Below w.heap.size w w28) := ⟨h3_⟩
                      clear BK118
                      clear BK119
                      clear BK120
                      clear HB
                      clear h0_ h1_ h2_ h3_
                      have BK118 := n0_
                      have BK119 := n1_
                      have BK120 := n2_
                      have HB := n3_
                      clear n0_ n1_ n2_ n3_
                      have hHeld : w28.cell? ⟨gb118, 0, none⟩ = some (.int .i64 a0_0) ∧ w28.cell? ⟨gb118, 1, none⟩ = some (.int .i64 a0_1) ∧ w28.cell? ⟨gb118, 2, none⟩ = some (.int .i64 a0_2) ∧ w28.cell? ⟨gb118, 3, none⟩ = some (.int .i64 a0_3) ∧ w28.cell? ⟨gb118, 4, none⟩ = some (.int .i64 a0_4) ∧ w28.cell? ⟨gb118, 5, none⟩ = some (.int .i64 a0_5) ∧ w28.cell? ⟨gb118, 6, none⟩ = some (.int .i64 a0_6) ∧ w28.cell? ⟨gb119, 0, none⟩ = some (.int .i64 a1_0) ∧ w28.cell? ⟨gb119, 1, none⟩ = some (.int .i64 a1_1) ∧ w28.cell? ⟨gb119, 2, none⟩ = some (.int .i64 a1_2) ∧ w28.cell? ⟨gb119, 3, none⟩ = some (.int .i64 a1_3) ∧ w28.cell? ⟨gb120, 0, none⟩ = some (.int .i64 a1_0) ∧ w28.cell? ⟨gb120, 1, none⟩ = some (.int .i64 a1_1) ∧ w28.cell? ⟨gb120, 2, none⟩ = some (.int .i64 a1_2) ∧ w28.cell? ⟨gb120, 3, none⟩ = some (.int .i64 a1_3) := hS_
                      refine norm_ (a' := ?_) ?_ ?_
                      rotate_left
                      · simp only [putAll, Act.put, List.setIfInBounds_toArray, List.set_cons_zero, List.set_cons_succ]
                        rfl
                      refine two_ (i := 12) (j := 13) (Ni := some 12) (Nj := some 13) #[true, true, true, true, true, true, true, true, true, true, true, true, true, false, false, false] #[true, true, true, true, true, true, true, true, true, true, true, true, false, true, false, false] rfl rfl rfl rfl (two_of HT_.out (by kernel_rfl)) (by decide) (by decide) (fun K hK => ?_) (fun K hK => ?_)
                      · skip
                        refine box_step ?hg (N := 12) ?hd (cs := #[.int .i64 0, .int .i64 0, .int .i64 0, .int .i64 0]) (t := 53) ?hr ?_; (case hd => rfl); (case hg => rfl); (case hr => first | (go_simp; done) | (go_simp; rfl))
                        intro gb129 hg w29 hbox hb
                        have n0_ := Aside0.mk (blk_below (blk_l BK118.out) hb)
                        have n1_ := Aside0.mk (blk_below (blk_l BK119.out) hb)
                        have n2_ := Aside0.mk (blk_below (blk_l BK120.out) hb)
                        have n3_ := Aside0.mk (below_step (by repeat (first | (with_reducible first | exact HB.out | apply below_alloc | apply pw_below_drewN | apply below_drew1 | refine below_set ?_ GE118.out | refine below_set ?_ GE119.out | refine below_set ?_ GE120.out) | exact HB.out)) hb)
                        have n4_ := Aside0.mk (hbox)
                        have n5_ := Aside0.mk ((by rw [hg]; exact (below_size (by repeat (first | (with_reducible first | exact HB.out | apply below_alloc | apply pw_below_drewN | apply below_drew1 | refine below_set ?_ GE118.out | refine below_set ?_ GE119.out | refine below_set ?_ GE120.out) | exact HB.out))) : w.heap.size ≤ gb129))
                        have n6_ := Aside0.mk ((by rw [hg]; exact (below_size (by repeat (first | (with_reducible first | exact HB.out | apply below_alloc | apply pw_below_drewN | apply below_drew1 | refine below_set ?_ GE118.out | refine below_set ?_ GE119.out | refine below_set ?_ GE120.out) | exact HB.out))) : w.heap.size ≤ gb129))
                        have n7_ := Aside0.mk ((by rw [hg]; exact Nat.ne_of_lt (blk_lt (blk_l BK118.out)) : gb118 ≠ gb129))
                        have n8_ := Aside0.mk ((by rw [hg]; exact Nat.ne_of_gt (blk_lt (blk_l BK118.out)) : gb129 ≠ gb118))
                        have n9_ := Aside0.mk ((by rw [hg]; exact Nat.ne_of_lt (blk_lt (blk_l BK119.out)) : gb119 ≠ gb129))
                        have n10_ := Aside0.mk ((by rw [hg]; exact Nat.ne_of_gt (blk_lt (blk_l BK119.out)) : gb129 ≠ gb119))
                        have n11_ := Aside0.mk ((by rw [hg]; exact Nat.ne_of_lt (blk_lt (blk_l BK120.out)) : gb120 ≠ gb129))
                        have n12_ := Aside0.mk ((by rw [hg]; exact Nat.ne_of_gt (blk_lt (blk_l BK120.out)) : gb129 ≠ gb120))
                        clear BK118
                        clear BK119
                        clear BK120
                        clear HB
                        have BK118 := n0_
                        have BK119 := n1_
                        have BK120 := n2_
                        have HB := n3_
                        have BK129 := n4_
                        have GW129 := n5_
                        have GE129 := n6_
                        have NB118_129 := n7_
                        have NB129_118 := n8_
                        have NB119_129 := n9_
                        have NB129_119 := n10_
                        have NB120_129 := n11_
                        have NB129_120 := n12_
                        clear n0_ n1_ n2_ n3_ n4_ n5_ n6_ n7_ n8_ n9_ n10_ n11_ n12_
                        clear hb hbox hg
                        refine hK.out _ _ ⟨(blk_cell BK118.out 0).trans rfl, (blk_cell BK118.out 1).trans rfl, (blk_cell BK118.out 2).trans rfl, (blk_cell BK118.out 3).trans rfl, (blk_cell BK118.out 4).trans rfl, (blk_cell BK118.out 5).trans rfl, (blk_cell BK118.out 6).trans rfl, (blk_cell BK119.out 0).trans rfl, (blk_cell BK119.out 1).trans rfl, (blk_cell BK119.out 2).trans rfl, (blk_cell BK119.out 3).trans rfl, (blk_cell BK120.out 0).trans rfl, (blk_cell BK120.out 1).trans rfl, (blk_cell BK120.out 2).trans rfl, (blk_cell BK120.out 3).trans rfl⟩ (fun hHeld => ?_)
                        clear hK K
                        refine norm_ (a' := ?_) ?_ ?_
                        rotate_left
                        · show Act.put _ (some 12) _ = _
                          simp only [Act.put, List.setIfInBounds_toArray, List.set_cons_zero, List.set_cons_succ, i64_w, i32_w]
                          rfl
                        exact norm_ (by first | (simp only [putAll, Act.put, List.setIfInBounds_toArray, List.set_cons_zero, List.set_cons_succ]; done) | (simp only [putAll, Act.put, List.setIfInBounds_toArray, List.set_cons_zero, List.set_cons_succ]; rfl)) (hJ5_11_12 (gb129) _ ⟨hHeld, (blk_l BK118.out), (blk_l BK119.out), (blk_l BK120.out), (blk_l BK129.out), GW129.out, GE129.out, NB118_129.out, NB129_118.out, NB119_129.out, NB129_119.out, NB120_129.out, NB129_120.out, (by repeat (first | (with_reducible first | exact HB.out | apply below_alloc | apply pw_below_drewN | apply below_drew1 | refine below_set ?_ GE118.out | refine below_set ?_ GE119.out | refine below_set ?_ GE120.out | refine below_set ?_ GE129.out) | exact HB.out))⟩)
                      · skip
                        refine box_step ?hg (N := 13) ?hd (cs := #[.int .i64 0, .int .i64 0, .int .i64 0, .int .i64 0]) (t := 54) ?hr ?_; (case hd => rfl); (case hg => rfl); (case hr => first | (go_simp; done) | (go_simp; rfl))
                        intro gb130 hg w29 hbox hb
                        have n0_ := Aside0.mk (blk_below (blk_l BK118.out) hb)
                        have n1_ := Aside0.mk (blk_below (blk_l BK119.out) hb)
                        have n2_ := Aside0.mk (blk_below (blk_l BK120.out) hb)
                        have n3_ := Aside0.mk (below_step (by repeat (first | (with_reducible first | exact HB.out | apply below_alloc | apply pw_below_drewN | apply below_drew1 | refine below_set ?_ GE118.out | refine below_set ?_ GE119.out | refine below_set ?_ GE120.out) | exact HB.out)) hb)
                        have n4_ := Aside0.mk (hbox)
                        have n5_ := Aside0.mk ((by rw [hg]; exact (below_size (by repeat (first | (with_reducible first | exact HB.out | apply below_alloc | apply pw_below_drewN | apply below_drew1 | refine below_set ?_ GE118.out | refine below_set ?_ GE119.out | refine below_set ?_ GE120.out) | exact HB.out))) : w.heap.size ≤ gb130))
                        have n6_ := Aside0.mk ((by rw [hg]; exact (below_size (by repeat (first | (with_reducible first | exact HB.out | apply below_alloc | apply pw_below_drewN | apply below_drew1 | refine below_set ?_ GE118.out | refine below_set ?_ GE119.out | refine below_set ?_ GE120.out) | exact HB.out))) : w.heap.size ≤ gb130))
                        have n7_ := Aside0.mk ((by rw [hg]; exact Nat.ne_of_lt (blk_lt (blk_l BK118.out)) : gb118 ≠ gb130))
                        have n8_ := Aside0.mk ((by rw [hg]; exact Nat.ne_of_gt (blk_lt (blk_l BK118.out)) : gb130 ≠ gb118))
                        have n9_ := Aside0.mk ((by rw [hg]; exact Nat.ne_of_lt (blk_lt (blk_l BK119.out)) : gb119 ≠ gb130))
                        have n10_ := Aside0.mk ((by rw [hg]; exact Nat.ne_of_gt (blk_lt (blk_l BK119.out)) : gb130 ≠ gb119))
                        have n11_ := Aside0.mk ((by rw [hg]; exact Nat.ne_of_lt (blk_lt (blk_l BK120.out)) : gb120 ≠ gb130))
                        have n12_ := Aside0.mk ((by rw [hg]; exact Nat.ne_of_gt (blk_lt (blk_l BK120.out)) : gb130 ≠ gb120))
                        clear BK118
                        clear BK119
                        clear BK120
                        clear HB
                        have BK118 := n0_
                        have BK119 := n1_
                        have BK120 := n2_
                        have HB := n3_
                        have BK130 := n4_
                        have GW130 := n5_
                        have GE130 := n6_
                        have NB118_130 := n7_
                        have NB130_118 := n8_
                        have NB119_130 := n9_
                        have NB130_119 := n10_
                        have NB120_130 := n11_
                        have NB130_120 := n12_
                        clear n0_ n1_ n2_ n3_ n4_ n5_ n6_ n7_ n8_ n9_ n10_ n11_ n12_
                        clear hb hbox hg
                        refine hK.out _ _ ⟨(blk_cell BK118.out 0).trans rfl, (blk_cell BK118.out 1).trans rfl, (blk_cell BK118.out 2).trans rfl, (blk_cell BK118.out 3).trans rfl, (blk_cell BK118.out 4).trans rfl, (blk_cell BK118.out 5).trans rfl, (blk_cell BK118.out 6).trans rfl, (blk_cell BK119.out 0).trans rfl, (blk_cell BK119.out 1).trans rfl, (blk_cell BK119.out 2).trans rfl, (blk_cell BK119.out 3).trans rfl, (blk_cell BK120.out 0).trans rfl, (blk_cell BK120.out 1).trans rfl, (blk_cell BK120.out 2).trans rfl, (blk_cell BK120.out 3).trans rfl⟩ (fun hHeld => ?_)
                        clear hK K
                        refine norm_ (a' := ?_) ?_ ?_
                        rotate_left
                        · show Act.put _ (some 13) _ = _
                          simp only [Act.put, List.setIfInBounds_toArray, List.set_cons_zero, List.set_cons_succ, i64_w, i32_w]
                          rfl
                        exact norm_ (by first | (simp only [putAll, Act.put, List.setIfInBounds_toArray, List.set_cons_zero, List.set_cons_succ]; done) | (simp only [putAll, Act.put, List.setIfInBounds_toArray, List.set_cons_zero, List.set_cons_succ]; rfl)) (hJ5_11_13 (gb130) _ ⟨hHeld, (blk_l BK118.out), (blk_l BK119.out), (blk_l BK120.out), (blk_l BK130.out), GW130.out, GE130.out, NB118_130.out, NB130_118.out, NB119_130.out, NB130_119.out, NB120_130.out, NB130_120.out, (by repeat (first | (with_reducible first | exact HB.out | apply below_alloc | apply pw_below_drewN | apply below_drew1 | refine below_set ?_ GE118.out | refine below_set ?_ GE119.out | refine below_set ?_ GE120.out | refine below_set ?_ GE130.out) | exact HB.out))⟩)
                  · skip
                    rintro ⟨gb129, gb130⟩ w29 ⟨hS_, h0_, h1_, h2_, h3_, h4_, h5_, h6_, h7_, h8_, h9_, h10_, h11_, h12_, h13_, h14_, h15_, h16_, h17_, h18_, h19_, h20_, h21_, h22_, h23_⟩
                    have n0_ : Aside0 (w29.heap[gb118]? = some (.cells #[.int .i64 a0_0, .int .i64 a0_1, .int .i64 a0_2, .int .i64 a0_3, .int .i64 a0_4, .int .i64 a0_5, .int .i64 a0_6] 29 (0, 0))) := ⟨h0_⟩
                    have n1_ : Aside0 (w29.heap[gb119]? = some (.cells #[.int .i64 a1_0, .int .i64 a1_1, .int .i64 a1_2, .int .i64 a1_3] 53 (0, 0))) := ⟨h1_⟩
                    have n2_ : Aside0 (w29.heap[gb120]? = some (.cells #[.int .i64 a1_0, .int .i64 a1_1, .int .i64 a1_2, .int .i64 a1_3] 54 (0, 0))) := ⟨h2_⟩
                    have n3_ : Aside0 (w29.heap[gb129]? = some (.cells #[.int .i64 0, .int .i64 0, .int .i64 0, .int .i64 0] 53 (0, 0))) := ⟨h3_⟩
                    have n4_ : Aside0 (w29.heap[gb130]? = some (.cells #[.int .i64 0, .int .i64 0, .int .i64 0, .int .i64 0] 54 (0, 0))) := ⟨h4_⟩
                    have n5_ : Aside0 (w.heap.size ≤ gb129) := ⟨h5_⟩
                    have n6_ : Aside0 (w.heap.size ≤ gb129) := ⟨h6_⟩
                    have n7_ : Aside0 (gb118 ≠ gb129) := ⟨h7_⟩
                    have n8_ : Aside0 (gb129 ≠ gb118) := ⟨h8_⟩
                    have n9_ : Aside0 (gb119 ≠ gb129) := ⟨h9_⟩
                    have n10_ : Aside0 (gb129 ≠ gb119) := ⟨h10_⟩
                    have n11_ : Aside0 (gb120 ≠ gb129) := ⟨h11_⟩
                    have n12_ : Aside0 (gb129 ≠ gb120) := ⟨h12_⟩
                    have n13_ : Aside0 (gb130 ≠ gb129) := ⟨h13_⟩
                    have n14_ : Aside0 (gb129 ≠ gb130) := ⟨h14_⟩
                    have n15_ : Aside0 (w.heap.size ≤ gb130) := ⟨h15_⟩
                    have n16_ : Aside0 (w.heap.size ≤ gb130) := ⟨h16_⟩
                    have n17_ : Aside0 (gb118 ≠ gb130) := ⟨h17_⟩
                    have n18_ : Aside0 (gb130 ≠ gb118) := ⟨h18_⟩
                    have n19_ : Aside0 (gb119 ≠ gb130) := ⟨h19_⟩
                    have n20_ : Aside0 (gb130 ≠ gb119) := ⟨h20_⟩
                    have n21_ : Aside0 (gb120 ≠ gb130) := ⟨h21_⟩
                    have n22_ : Aside0 (gb130 ≠ gb120) := ⟨h22_⟩
                    have n23_ : Aside0 (Below w.heap.size w w29) := ⟨h23_⟩
                    clear BK118
                    clear BK119
                    clear BK120
                    clear HB
                    clear h0_ h1_ h2_ h3_ h4_ h5_ h6_ h7_ h8_ h9_ h10_ h11_ h12_ h13_ h14_ h15_ h16_ h17_ h18_ h19_ h20_ h21_ h22_ h23_
                    have BK118 := n0_
                    have BK119 := n1_
                    have BK120 := n2_
                    have BK129 := n3_
                    have BK130 := n4_
                    have GW129 := n5_
                    have GE129 := n6_
                    have NB118_129 := n7_
                    have NB129_118 := n8_
                    have NB119_129 := n9_
                    have NB129_119 := n10_
                    have NB120_129 := n11_
                    have NB129_120 := n12_
                    have NB130_129 := n13_
                    have NB129_130 := n14_
                    have GW130 := n15_
                    have GE130 := n16_
                    have NB118_130 := n17_
                    have NB130_118 := n18_
                    have NB119_130 := n19_
                    have NB130_119 := n20_
                    have NB120_130 := n21_
                    have NB130_120 := n22_
                    have HB := n23_
                    clear n0_ n1_ n2_ n3_ n4_ n5_ n6_ n7_ n8_ n9_ n10_ n11_ n12_ n13_ n14_ n15_ n16_ n17_ n18_ n19_ n20_ n21_ n22_ n23_
                    have hHeld : w29.cell? ⟨gb118, 0, none⟩ = some (.int .i64 a0_0) ∧ w29.cell? ⟨gb118, 1, none⟩ = some (.int .i64 a0_1) ∧ w29.cell? ⟨gb118, 2, none⟩ = some (.int .i64 a0_2) ∧ w29.cell? ⟨gb118, 3, none⟩ = some (.int .i64 a0_3) ∧ w29.cell? ⟨gb118, 4, none⟩ = some (.int .i64 a0_4) ∧ w29.cell? ⟨gb118, 5, none⟩ = some (.int .i64 a0_5) ∧ w29.cell? ⟨gb118, 6, none⟩ = some (.int .i64 a0_6) ∧ w29.cell? ⟨gb119, 0, none⟩ = some (.int .i64 a1_0) ∧ w29.cell? ⟨gb119, 1, none⟩ = some (.int .i64 a1_1) ∧ w29.cell? ⟨gb119, 2, none⟩ = some (.int .i64 a1_2) ∧ w29.cell? ⟨gb119, 3, none⟩ = some (.int .i64 a1_3) ∧ w29.cell? ⟨gb120, 0, none⟩ = some (.int .i64 a1_0) ∧ w29.cell? ⟨gb120, 1, none⟩ = some (.int .i64 a1_1) ∧ w29.cell? ⟨gb120, 2, none⟩ = some (.int .i64 a1_2) ∧ w29.cell? ⟨gb120, 3, none⟩ = some (.int .i64 a1_3) := hS_
                    refine norm_ (a' := ?_) ?_ ?_
                    rotate_left
                    · simp only [putAll, Act.put, List.setIfInBounds_toArray, List.set_cons_zero, List.set_cons_succ]
                      rfl
                    refine one_ (i := 11) (N := some 34) #[true, true, true, true, true, true, true, true, true, true, true, true, true, true, false, false] rfl rfl (one_of HT_.out (by kernel_rfl)) (by decide) (fun K hK => ?_)
                    refine goes_ Try.func28 (by kernel_rfl) rfl #[.agg #[.int .i64 a0_0, .int .i64 a0_1, .int .i64 a0_2, .int .i64 a0_3, .int .i64 a0_4, .int .i64 a0_5, .int .i64 a0_6], .agg #[.int .i64 a1_0, .int .i64 a1_1, .int .i64 a1_2, .int .i64 a1_3], .int .i64 a2, .int .i64 a3, .int .i64 a4] (by rfl) rfl rfl (by (try simp only [List.map_toArray, List.map_cons, List.map_nil]); first | done | rfl | (simp only [List.length_drop, List.length_take]; rfl)) ?_
                    with_reducible refine (beguinageref22_Next.calls a0_0 a0_1 a0_2 a0_3 a0_4 a0_5 a0_6 a1_0 a1_1 a1_2 a1_3 a2 a3 a4 t125 t126 t127 t128 _ A7.out).mono ?_
                    rintro e w30 ⟨rfl, hb⟩
                    refine ⟨_, rfl, ?_⟩
                    have n0_ := Aside0.mk (blk_below (blk_l BK118.out) hb)
                    have n1_ := Aside0.mk (blk_below (blk_l BK119.out) hb)
                    have n2_ := Aside0.mk (blk_below (blk_l BK120.out) hb)
                    have n3_ := Aside0.mk (blk_below (blk_l BK129.out) hb)
                    have n4_ := Aside0.mk (blk_below (blk_l BK130.out) hb)
                    have n5_ := Aside0.mk (below_step (by repeat (first | (with_reducible first | exact HB.out | apply below_alloc | apply pw_below_drewN | apply below_drew1 | refine below_set ?_ GE118.out | refine below_set ?_ GE119.out | refine below_set ?_ GE120.out | refine below_set ?_ GE129.out | refine below_set ?_ GE130.out) | exact HB.out)) hb)
                    clear BK118
                    clear BK119
                    clear BK120
                    clear BK129
                    clear BK130
                    clear HB
                    have BK118 := n0_
                    have BK119 := n1_
                    have BK120 := n2_
                    have BK129 := n3_
                    have BK130 := n4_
                    have HB := n5_
                    clear n0_ n1_ n2_ n3_ n4_ n5_
                    (try clear hb)
                    (try clear hb2)
                    (try clear hk)
                    (try clear hi)
                    refine hK.out _ _ ⟨(blk_cell BK118.out 0).trans rfl, (blk_cell BK118.out 1).trans rfl, (blk_cell BK118.out 2).trans rfl, (blk_cell BK118.out 3).trans rfl, (blk_cell BK118.out 4).trans rfl, (blk_cell BK118.out 5).trans rfl, (blk_cell BK118.out 6).trans rfl, (blk_cell BK119.out 0).trans rfl, (blk_cell BK119.out 1).trans rfl, (blk_cell BK119.out 2).trans rfl, (blk_cell BK119.out 3).trans rfl, (blk_cell BK120.out 0).trans rfl, (blk_cell BK120.out 1).trans rfl, (blk_cell BK120.out 2).trans rfl, (blk_cell BK120.out 3).trans rfl⟩ (fun hHeld => ?_)
                    clear hK K
                    refine norm_ (a' := ?_) ?_ ?_
                    rotate_left
                    · show Act.put _ (some 34) _ = _
                      simp only [Act.put, List.setIfInBounds_toArray, List.set_cons_zero, List.set_cons_succ, i64_w, i32_w]
                      rfl
                    exact norm_ (by first | (simp only [putAll, Act.put, List.setIfInBounds_toArray, List.set_cons_zero, List.set_cons_succ]; done) | (simp only [putAll, Act.put, List.setIfInBounds_toArray, List.set_cons_zero, List.set_cons_succ]; rfl)) (hJ5_11_12_13 (gb129, gb130) _ ⟨hHeld, (blk_l BK118.out), (blk_l BK119.out), (blk_l BK120.out), (blk_l BK129.out), (blk_l BK130.out), GW129.out, GE129.out, NB118_129.out, NB129_118.out, NB119_129.out, NB129_119.out, NB120_129.out, NB129_120.out, NB130_129.out, NB129_130.out, GW130.out, GE130.out, NB118_130.out, NB130_118.out, NB119_130.out, NB130_119.out, NB120_130.out, NB130_120.out, (by repeat (first | (with_reducible first | exact HB.out | apply below_alloc | apply pw_below_drewN | apply below_drew1 | refine below_set ?_ GE118.out | refine below_set ?_ GE119.out | refine below_set ?_ GE120.out | refine below_set ?_ GE129.out | refine below_set ?_ GE130.out) | exact HB.out))⟩)
                · skip
                  rintro gb130 w29 ⟨hS_, h0_, h1_, h2_, h3_, h4_, h5_, h6_, h7_, h8_, h9_, h10_, h11_, h12_⟩
                  have n0_ : Aside0 (w29.heap[gb118]? = some (.cells #[.int .i64 a0_0, .int .i64 a0_1, .int .i64 a0_2, .int .i64 a0_3, .int .i64 a0_4, .int .i64 a0_5, .int .i64 a0_6] 29 (0, 0))) := ⟨h0_⟩
                  have n1_ : Aside0 (w29.heap[gb119]? = some (.cells #[.int .i64 a1_0, .int .i64 a1_1, .int .i64 a1_2, .int .i64 a1_3] 53 (0, 0))) := ⟨h1_⟩
                  have n2_ : Aside0 (w29.heap[gb120]? = some (.cells #[.int .i64 a1_0, .int .i64 a1_1, .int .i64 a1_2, .int .i64 a1_3] 54 (0, 0))) := ⟨h2_⟩
                  have n3_ : Aside0 (w29.heap[gb130]? = some (.cells #[.int .i64 0, .int .i64 0, .int .i64 0, .int .i64 0] 54 (0, 0))) := ⟨h3_⟩
                  have n4_ : Aside0 (w.heap.size ≤ gb130) := ⟨h4_⟩
                  have n5_ : Aside0 (w.heap.size ≤ gb130) := ⟨h5_⟩
                  have n6_ : Aside0 (gb118 ≠ gb130) := ⟨h6_⟩
                  have n7_ : Aside0 (gb130 ≠ gb118) := ⟨h7_⟩
                  have n8_ : Aside0 (gb119 ≠ gb130) := ⟨h8_⟩
                  have n9_ : Aside0 (gb130 ≠ gb119) := ⟨h9_⟩
                  have n10_ : Aside0 (gb120 ≠ gb130) := ⟨h10_⟩
                  have n11_ : Aside0 (gb130 ≠ gb120) := ⟨h11_⟩
                  have n12_ : Aside0 (Below w.heap.size w w29) := ⟨h12_⟩
                  clear BK118
                  clear BK119
                  clear BK120
                  clear HB
                  clear h0_ h1_ h2_ h3_ h4_ h5_ h6_ h7_ h8_ h9_ h10_ h11_ h12_
                  have BK118 := n0_
                  have BK119 := n1_
                  have BK120 := n2_
                  have BK130 := n3_
                  have GW130 := n4_
                  have GE130 := n5_
                  have NB118_130 := n6_
                  have NB130_118 := n7_
                  have NB119_130 := n8_
                  have NB130_119 := n9_
                  have NB120_130 := n10_
                  have NB130_120 := n11_
                  have HB := n12_
                  clear n0_ n1_ n2_ n3_ n4_ n5_ n6_ n7_ n8_ n9_ n10_ n11_ n12_
                  have hHeld : w29.cell? ⟨gb118, 0, none⟩ = some (.int .i64 a0_0) ∧ w29.cell? ⟨gb118, 1, none⟩ = some (.int .i64 a0_1) ∧ w29.cell? ⟨gb118, 2, none⟩ = some (.int .i64 a0_2) ∧ w29.cell? ⟨gb118, 3, none⟩ = some (.int .i64 a0_3) ∧ w29.cell? ⟨gb118, 4, none⟩ = some (.int .i64 a0_4) ∧ w29.cell? ⟨gb118, 5, none⟩ = some (.int .i64 a0_5) ∧ w29.cell? ⟨gb118, 6, none⟩ = some (.int .i64 a0_6) ∧ w29.cell? ⟨gb119, 0, none⟩ = some (.int .i64 a1_0) ∧ w29.cell? ⟨gb119, 1, none⟩ = some (.int .i64 a1_1) ∧ w29.cell? ⟨gb119, 2, none⟩ = some (.int .i64 a1_2) ∧ w29.cell? ⟨gb119, 3, none⟩ = some (.int .i64 a1_3) ∧ w29.cell? ⟨gb120, 0, none⟩ = some (.int .i64 a1_0) ∧ w29.cell? ⟨gb120, 1, none⟩ = some (.int .i64 a1_1) ∧ w29.cell? ⟨gb120, 2, none⟩ = some (.int .i64 a1_2) ∧ w29.cell? ⟨gb120, 3, none⟩ = some (.int .i64 a1_3) := hS_
                  refine norm_ (a' := ?_) ?_ ?_
                  rotate_left
                  · simp only [putAll, Act.put, List.setIfInBounds_toArray, List.set_cons_zero, List.set_cons_succ]
                    rfl
                  refine one_ (i := 12) (N := some 12) #[true, true, true, true, true, true, true, true, true, true, true, true, true, true, false, false] rfl rfl (one_of HT_.out (by kernel_rfl)) (by decide) (fun K hK => ?_)
                  refine box_step ?hg (N := 12) ?hd (cs := #[.int .i64 0, .int .i64 0, .int .i64 0, .int .i64 0]) (t := 53) ?hr ?_; (case hd => rfl); (case hg => rfl); (case hr => first | (go_simp; done) | (go_simp; rfl))
                  intro gb129 hg w30 hbox hb
                  have n0_ := Aside0.mk (blk_below (blk_l BK118.out) hb)
                  have n1_ := Aside0.mk (blk_below (blk_l BK119.out) hb)
                  have n2_ := Aside0.mk (blk_below (blk_l BK120.out) hb)
                  have n3_ := Aside0.mk (blk_below (blk_l BK130.out) hb)
                  have n4_ := Aside0.mk (below_step (by repeat (first | (with_reducible first | exact HB.out | apply below_alloc | apply pw_below_drewN | apply below_drew1 | refine below_set ?_ GE118.out | refine below_set ?_ GE119.out | refine below_set ?_ GE120.out | refine below_set ?_ GE130.out) | exact HB.out)) hb)
                  have n5_ := Aside0.mk (hbox)
                  have n6_ := Aside0.mk ((by rw [hg]; exact (below_size (by repeat (first | (with_reducible first | exact HB.out | apply below_alloc | apply pw_below_drewN | apply below_drew1 | refine below_set ?_ GE118.out | refine below_set ?_ GE119.out | refine below_set ?_ GE120.out | refine below_set ?_ GE130.out) | exact HB.out))) : w.heap.size ≤ gb129))
                  have n7_ := Aside0.mk ((by rw [hg]; exact (below_size (by repeat (first | (with_reducible first | exact HB.out | apply below_alloc | apply pw_below_drewN | apply below_drew1 | refine below_set ?_ GE118.out | refine below_set ?_ GE119.out | refine below_set ?_ GE120.out | refine below_set ?_ GE130.out) | exact HB.out))) : w.heap.size ≤ gb129))
                  have n8_ := Aside0.mk ((by rw [hg]; exact Nat.ne_of_lt (blk_lt (blk_l BK118.out)) : gb118 ≠ gb129))
                  have n9_ := Aside0.mk ((by rw [hg]; exact Nat.ne_of_gt (blk_lt (blk_l BK118.out)) : gb129 ≠ gb118))
                  have n10_ := Aside0.mk ((by rw [hg]; exact Nat.ne_of_lt (blk_lt (blk_l BK119.out)) : gb119 ≠ gb129))
                  have n11_ := Aside0.mk ((by rw [hg]; exact Nat.ne_of_gt (blk_lt (blk_l BK119.out)) : gb129 ≠ gb119))
                  have n12_ := Aside0.mk ((by rw [hg]; exact Nat.ne_of_lt (blk_lt (blk_l BK120.out)) : gb120 ≠ gb129))
                  have n13_ := Aside0.mk ((by rw [hg]; exact Nat.ne_of_gt (blk_lt (blk_l BK120.out)) : gb129 ≠ gb120))
                  have n14_ := Aside0.mk ((by rw [hg]; exact Nat.ne_of_lt (blk_lt (blk_l BK130.out)) : gb130 ≠ gb129))
                  have n15_ := Aside0.mk ((by rw [hg]; exact Nat.ne_of_gt (blk_lt (blk_l BK130.out)) : gb129 ≠ gb130))
                  clear BK118
                  clear BK119
                  clear BK120
                  clear BK130
                  clear HB
                  have BK118 := n0_
                  have BK119 := n1_
                  have BK120 := n2_
                  have BK130 := n3_
                  have HB := n4_
                  have BK129 := n5_
                  have GW129 := n6_
                  have GE129 := n7_
                  have NB118_129 := n8_
                  have NB129_118 := n9_
                  have NB119_129 := n10_
                  have NB129_119 := n11_
                  have NB120_129 := n12_
                  have NB129_120 := n13_
                  have NB130_129 := n14_
                  have NB129_130 := n15_
                  clear n0_ n1_ n2_ n3_ n4_ n5_ n6_ n7_ n8_ n9_ n10_ n11_ n12_ n13_ n14_ n15_
                  clear hb hbox hg
                  refine hK.out _ _ ⟨(blk_cell BK118.out 0).trans rfl, (blk_cell BK118.out 1).trans rfl, (blk_cell BK118.out 2).trans rfl, (blk_cell BK118.out 3).trans rfl, (blk_cell BK118.out 4).trans rfl, (blk_cell BK118.out 5).trans rfl, (blk_cell BK118.out 6).trans rfl, (blk_cell BK119.out 0).trans rfl, (blk_cell BK119.out 1).trans rfl, (blk_cell BK119.out 2).trans rfl, (blk_cell BK119.out 3).trans rfl, (blk_cell BK120.out 0).trans rfl, (blk_cell BK120.out 1).trans rfl, (blk_cell BK120.out 2).trans rfl, (blk_cell BK120.out 3).trans rfl⟩ (fun hHeld => ?_)
                  clear hK K
                  refine norm_ (a' := ?_) ?_ ?_
                  rotate_left
                  · show Act.put _ (some 12) _ = _
                    simp only [Act.put, List.setIfInBounds_toArray, List.set_cons_zero, List.set_cons_succ, i64_w, i32_w]
                    rfl
                  exact norm_ (by first | (simp only [putAll, Act.put, List.setIfInBounds_toArray, List.set_cons_zero, List.set_cons_succ]; done) | (simp only [putAll, Act.put, List.setIfInBounds_toArray, List.set_cons_zero, List.set_cons_succ]; rfl)) (hJ5_11_12_13 (gb129, gb130) _ ⟨hHeld, (blk_l BK118.out), (blk_l BK119.out), (blk_l BK120.out), (blk_l BK129.out), (blk_l BK130.out), GW129.out, GE129.out, NB118_129.out, NB129_118.out, NB119_129.out, NB129_119.out, NB120_129.out, NB129_120.out, NB130_129.out, NB129_130.out, GW130.out, GE130.out, NB118_130.out, NB130_118.out, NB119_130.out, NB130_119.out, NB120_130.out, NB130_120.out, (by repeat (first | (with_reducible first | exact HB.out | apply below_alloc | apply pw_below_drewN | apply below_drew1 | refine below_set ?_ GE118.out | refine below_set ?_ GE119.out | refine below_set ?_ GE120.out | refine below_set ?_ GE130.out | refine below_set ?_ GE129.out) | exact HB.out))⟩)
              · skip
                rintro gb129 w29 ⟨hS_, h0_, h1_, h2_, h3_, h4_, h5_, h6_, h7_, h8_, h9_, h10_, h11_, h12_⟩
                have n0_ : Aside0 (w29.heap[gb118]? = some (.cells #[.int .i64 a0_0, .int .i64 a0_1, .int .i64 a0_2, .int .i64 a0_3, .int .i64 a0_4, .int .i64 a0_5, .int .i64 a0_6] 29 (0, 0))) := ⟨h0_⟩
                have n1_ : Aside0 (w29.heap[gb119]? = some (.cells #[.int .i64 a1_0, .int .i64 a1_1, .int .i64 a1_2, .int .i64 a1_3] 53 (0, 0))) := ⟨h1_⟩
                have n2_ : Aside0 (w29.heap[gb120]? = some (.cells #[.int .i64 a1_0, .int .i64 a1_1, .int .i64 a1_2, .int .i64 a1_3] 54 (0, 0))) := ⟨h2_⟩
                have n3_ : Aside0 (w29.heap[gb129]? = some (.cells #[.int .i64 0, .int .i64 0, .int .i64 0, .int .i64 0] 53 (0, 0))) := ⟨h3_⟩
                have n4_ : Aside0 (w.heap.size ≤ gb129) := ⟨h4_⟩
                have n5_ : Aside0 (w.heap.size ≤ gb129) := ⟨h5_⟩
                have n6_ : Aside0 (gb118 ≠ gb129) := ⟨h6_⟩
                have n7_ : Aside0 (gb129 ≠ gb118) := ⟨h7_⟩
                have n8_ : Aside0 (gb119 ≠ gb129) := ⟨h8_⟩
                have n9_ : Aside0 (gb129 ≠ gb119) := ⟨h9_⟩
                have n10_ : Aside0 (gb120 ≠ gb129) := ⟨h10_⟩
                have n11_ : Aside0 (gb129 ≠ gb120) := ⟨h11_⟩
                have n12_ : Aside0 (Below w.heap.size w w29) := ⟨h12_⟩
                clear BK118
                clear BK119
                clear BK120
                clear HB
                clear h0_ h1_ h2_ h3_ h4_ h5_ h6_ h7_ h8_ h9_ h10_ h11_ h12_
                have BK118 := n0_
                have BK119 := n1_
                have BK120 := n2_
                have BK129 := n3_
                have GW129 := n4_
                have GE129 := n5_
                have NB118_129 := n6_
                have NB129_118 := n7_
                have NB119_129 := n8_
                have NB129_119 := n9_
                have NB120_129 := n10_
                have NB129_120 := n11_
                have HB := n12_
                clear n0_ n1_ n2_ n3_ n4_ n5_ n6_ n7_ n8_ n9_ n10_ n11_ n12_
                have hHeld : w29.cell? ⟨gb118, 0, none⟩ = some (.int .i64 a0_0) ∧ w29.cell? ⟨gb118, 1, none⟩ = some (.int .i64 a0_1) ∧ w29.cell? ⟨gb118, 2, none⟩ = some (.int .i64 a0_2) ∧ w29.cell? ⟨gb118, 3, none⟩ = some (.int .i64 a0_3) ∧ w29.cell? ⟨gb118, 4, none⟩ = some (.int .i64 a0_4) ∧ w29.cell? ⟨gb118, 5, none⟩ = some (.int .i64 a0_5) ∧ w29.cell? ⟨gb118, 6, none⟩ = some (.int .i64 a0_6) ∧ w29.cell? ⟨gb119, 0, none⟩ = some (.int .i64 a1_0) ∧ w29.cell? ⟨gb119, 1, none⟩ = some (.int .i64 a1_1) ∧ w29.cell? ⟨gb119, 2, none⟩ = some (.int .i64 a1_2) ∧ w29.cell? ⟨gb119, 3, none⟩ = some (.int .i64 a1_3) ∧ w29.cell? ⟨gb120, 0, none⟩ = some (.int .i64 a1_0) ∧ w29.cell? ⟨gb120, 1, none⟩ = some (.int .i64 a1_1) ∧ w29.cell? ⟨gb120, 2, none⟩ = some (.int .i64 a1_2) ∧ w29.cell? ⟨gb120, 3, none⟩ = some (.int .i64 a1_3) := hS_
                refine norm_ (a' := ?_) ?_ ?_
                rotate_left
                · simp only [putAll, Act.put, List.setIfInBounds_toArray, List.set_cons_zero, List.set_cons_succ]
                  rfl
                refine one_ (i := 13) (N := some 13) #[true, true, true, true, true, true, true, true, true, true, true, true, true, true, false, false] rfl rfl (one_of HT_.out (by kernel_rfl)) (by decide) (fun K hK => ?_)
                refine box_step ?hg (N := 13) ?hd (cs := #[.int .i64 0, .int .i64 0, .int .i64 0, .int .i64 0]) (t := 54) ?hr ?_; (case hd => rfl); (case hg => rfl); (case hr => first | (go_simp; done) | (go_simp; rfl))
                intro gb130 hg w30 hbox hb
                have n0_ := Aside0.mk (blk_below (blk_l BK118.out) hb)
                have n1_ := Aside0.mk (blk_below (blk_l BK119.out) hb)
                have n2_ := Aside0.mk (blk_below (blk_l BK120.out) hb)
                have n3_ := Aside0.mk (blk_below (blk_l BK129.out) hb)
                have n4_ := Aside0.mk (below_step (by repeat (first | (with_reducible first | exact HB.out | apply below_alloc | apply pw_below_drewN | apply below_drew1 | refine below_set ?_ GE118.out | refine below_set ?_ GE119.out | refine below_set ?_ GE120.out | refine below_set ?_ GE129.out) | exact HB.out)) hb)
                have n5_ := Aside0.mk (hbox)
                have n6_ := Aside0.mk ((by rw [hg]; exact (below_size (by repeat (first | (with_reducible first | exact HB.out | apply below_alloc | apply pw_below_drewN | apply below_drew1 | refine below_set ?_ GE118.out | refine below_set ?_ GE119.out | refine below_set ?_ GE120.out | refine below_set ?_ GE129.out) | exact HB.out))) : w.heap.size ≤ gb130))
                have n7_ := Aside0.mk ((by rw [hg]; exact (below_size (by repeat (first | (with_reducible first | exact HB.out | apply below_alloc | apply pw_below_drewN | apply below_drew1 | refine below_set ?_ GE118.out | refine below_set ?_ GE119.out | refine below_set ?_ GE120.out | refine below_set ?_ GE129.out) | exact HB.out))) : w.heap.size ≤ gb130))
                have n8_ := Aside0.mk ((by rw [hg]; exact Nat.ne_of_lt (blk_lt (blk_l BK118.out)) : gb118 ≠ gb130))
                have n9_ := Aside0.mk ((by rw [hg]; exact Nat.ne_of_gt (blk_lt (blk_l BK118.out)) : gb130 ≠ gb118))
                have n10_ := Aside0.mk ((by rw [hg]; exact Nat.ne_of_lt (blk_lt (blk_l BK119.out)) : gb119 ≠ gb130))
                have n11_ := Aside0.mk ((by rw [hg]; exact Nat.ne_of_gt (blk_lt (blk_l BK119.out)) : gb130 ≠ gb119))
                have n12_ := Aside0.mk ((by rw [hg]; exact Nat.ne_of_lt (blk_lt (blk_l BK120.out)) : gb120 ≠ gb130))
                have n13_ := Aside0.mk ((by rw [hg]; exact Nat.ne_of_gt (blk_lt (blk_l BK120.out)) : gb130 ≠ gb120))
                have n14_ := Aside0.mk ((by rw [hg]; exact Nat.ne_of_lt (blk_lt (blk_l BK129.out)) : gb129 ≠ gb130))
                have n15_ := Aside0.mk ((by rw [hg]; exact Nat.ne_of_gt (blk_lt (blk_l BK129.out)) : gb130 ≠ gb129))
                clear BK118
                clear BK119
                clear BK120
                clear BK129
                clear HB
                have BK118 := n0_
                have BK119 := n1_
                have BK120 := n2_
                have BK129 := n3_
                have HB := n4_
                have BK130 := n5_
                have GW130 := n6_
                have GE130 := n7_
                have NB118_130 := n8_
                have NB130_118 := n9_
                have NB119_130 := n10_
                have NB130_119 := n11_
                have NB120_130 := n12_
                have NB130_120 := n13_
                have NB129_130 := n14_
                have NB130_129 := n15_
                clear n0_ n1_ n2_ n3_ n4_ n5_ n6_ n7_ n8_ n9_ n10_ n11_ n12_ n13_ n14_ n15_
                clear hb hbox hg
                refine hK.out _ _ ⟨(blk_cell BK118.out 0).trans rfl, (blk_cell BK118.out 1).trans rfl, (blk_cell BK118.out 2).trans rfl, (blk_cell BK118.out 3).trans rfl, (blk_cell BK118.out 4).trans rfl, (blk_cell BK118.out 5).trans rfl, (blk_cell BK118.out 6).trans rfl, (blk_cell BK119.out 0).trans rfl, (blk_cell BK119.out 1).trans rfl, (blk_cell BK119.out 2).trans rfl, (blk_cell BK119.out 3).trans rfl, (blk_cell BK120.out 0).trans rfl, (blk_cell BK120.out 1).trans rfl, (blk_cell BK120.out 2).trans rfl, (blk_cell BK120.out 3).trans rfl⟩ (fun hHeld => ?_)
                clear hK K
                refine norm_ (a' := ?_) ?_ ?_
                rotate_left
                · show Act.put _ (some 13) _ = _
                  simp only [Act.put, List.setIfInBounds_toArray, List.set_cons_zero, List.set_cons_succ, i64_w, i32_w]
                  rfl
                exact norm_ (by first | (simp only [putAll, Act.put, List.setIfInBounds_toArray, List.set_cons_zero, List.set_cons_succ]; done) | (simp only [putAll, Act.put, List.setIfInBounds_toArray, List.set_cons_zero, List.set_cons_succ]; rfl)) (hJ5_11_12_13 (gb129, gb130) _ ⟨hHeld, (blk_l BK118.out), (blk_l BK119.out), (blk_l BK120.out), (blk_l BK129.out), (blk_l BK130.out), GW129.out, GE129.out, NB118_129.out, NB129_118.out, NB119_129.out, NB129_119.out, NB120_129.out, NB129_120.out, NB130_129.out, NB129_130.out, GW130.out, GE130.out, NB118_130.out, NB130_118.out, NB119_130.out, NB130_119.out, NB120_130.out, NB130_120.out, (by repeat (first | (with_reducible first | exact HB.out | apply below_alloc | apply pw_below_drewN | apply below_drew1 | refine below_set ?_ GE118.out | refine below_set ?_ GE119.out | refine below_set ?_ GE120.out | refine below_set ?_ GE129.out | refine below_set ?_ GE130.out) | exact HB.out))⟩)
            rintro ⟨gb129, gb130⟩ w30 ⟨hS_, h0_, h1_, h2_, h3_, h4_, h5_, h6_, h7_, h8_, h9_, h10_, h11_, h12_, h13_, h14_, h15_, h16_, h17_, h18_, h19_, h20_, h21_, h22_, h23_⟩
            have n0_ : Aside0 (w30.heap[gb118]? = some (.cells #[.int .i64 a0_0, .int .i64 a0_1, .int .i64 a0_2, .int .i64 a0_3, .int .i64 a0_4, .int .i64 a0_5, .int .i64 a0_6] 29 (0, 0))) := ⟨h0_⟩
            have n1_ : Aside0 (w30.heap[gb119]? = some (.cells #[.int .i64 a1_0, .int .i64 a1_1, .int .i64 a1_2, .int .i64 a1_3] 53 (0, 0))) := ⟨h1_⟩
            have n2_ : Aside0 (w30.heap[gb120]? = some (.cells #[.int .i64 a1_0, .int .i64 a1_1, .int .i64 a1_2, .int .i64 a1_3] 54 (0, 0))) := ⟨h2_⟩
            have n3_ : Aside0 (w30.heap[gb129]? = some (.cells #[.int .i64 0, .int .i64 0, .int .i64 0, .int .i64 0] 53 (0, 0))) := ⟨h3_⟩
            have n4_ : Aside0 (w30.heap[gb130]? = some (.cells #[.int .i64 0, .int .i64 0, .int .i64 0, .int .i64 0] 54 (0, 0))) := ⟨h4_⟩
            have n5_ : Aside0 (w.heap.size ≤ gb129) := ⟨h5_⟩
            have n6_ : Aside0 (w.heap.size ≤ gb129) := ⟨h6_⟩
            have n7_ : Aside0 (gb118 ≠ gb129) := ⟨h7_⟩
            have n8_ : Aside0 (gb129 ≠ gb118) := ⟨h8_⟩
            have n9_ : Aside0 (gb119 ≠ gb129) := ⟨h9_⟩
            have n10_ : Aside0 (gb129 ≠ gb119) := ⟨h10_⟩
            have n11_ : Aside0 (gb120 ≠ gb129) := ⟨h11_⟩
            have n12_ : Aside0 (gb129 ≠ gb120) := ⟨h12_⟩
            have n13_ : Aside0 (gb130 ≠ gb129) := ⟨h13_⟩
            have n14_ : Aside0 (gb129 ≠ gb130) := ⟨h14_⟩
            have n15_ : Aside0 (w.heap.size ≤ gb130) := ⟨h15_⟩
            have n16_ : Aside0 (w.heap.size ≤ gb130) := ⟨h16_⟩
            have n17_ : Aside0 (gb118 ≠ gb130) := ⟨h17_⟩
            have n18_ : Aside0 (gb130 ≠ gb118) := ⟨h18_⟩
            have n19_ : Aside0 (gb119 ≠ gb130) := ⟨h19_⟩
            have n20_ : Aside0 (gb130 ≠ gb119) := ⟨h20_⟩
            have n21_ : Aside0 (gb120 ≠ gb130) := ⟨h21_⟩
            have n22_ : Aside0 (gb130 ≠ gb120) := ⟨h22_⟩
            have n23_ : Aside0 (Below w.heap.size w w30) := ⟨h23_⟩
            clear BK118
            clear BK119
            clear BK120
            clear HB
            clear h0_ h1_ h2_ h3_ h4_ h5_ h6_ h7_ h8_ h9_ h10_ h11_ h12_ h13_ h14_ h15_ h16_ h17_ h18_ h19_ h20_ h21_ h22_ h23_
            have BK118 := n0_
            have BK119 := n1_
            have BK120 := n2_
            have BK129 := n3_
            have BK130 := n4_
            have GW129 := n5_
            have GE129 := n6_
            have NB118_129 := n7_
            have NB129_118 := n8_
            have NB119_129 := n9_
            have NB129_119 := n10_
            have NB120_129 := n11_
            have NB129_120 := n12_
            have NB130_129 := n13_
            have NB129_130 := n14_
            have GW130 := n15_
            have GE130 := n16_
            have NB118_130 := n17_
            have NB130_118 := n18_
            have NB119_130 := n19_
            have NB130_119 := n20_
            have NB120_130 := n21_
            have NB130_120 := n22_
            have HB := n23_
            clear n0_ n1_ n2_ n3_ n4_ n5_ n6_ n7_ n8_ n9_ n10_ n11_ n12_ n13_ n14_ n15_ n16_ n17_ n18_ n19_ n20_ n21_ n22_ n23_
            have hHeld : w30.cell? ⟨gb118, 0, none⟩ = some (.int .i64 a0_0) ∧ w30.cell? ⟨gb118, 1, none⟩ = some (.int .i64 a0_1) ∧ w30.cell? ⟨gb118, 2, none⟩ = some (.int .i64 a0_2) ∧ w30.cell? ⟨gb118, 3, none⟩ = some (.int .i64 a0_3) ∧ w30.cell? ⟨gb118, 4, none⟩ = some (.int .i64 a0_4) ∧ w30.cell? ⟨gb118, 5, none⟩ = some (.int .i64 a0_5) ∧ w30.cell? ⟨gb118, 6, none⟩ = some (.int .i64 a0_6) ∧ w30.cell? ⟨gb119, 0, none⟩ = some (.int .i64 a1_0) ∧ w30.cell? ⟨gb119, 1, none⟩ = some (.int .i64 a1_1) ∧ w30.cell? ⟨gb119, 2, none⟩ = some (.int .i64 a1_2) ∧ w30.cell? ⟨gb119, 3, none⟩ = some (.int .i64 a1_3) ∧ w30.cell? ⟨gb120, 0, none⟩ = some (.int .i64 a1_0) ∧ w30.cell? ⟨gb120, 1, none⟩ = some (.int .i64 a1_1) ∧ w30.cell? ⟨gb120, 2, none⟩ = some (.int .i64 a1_2) ∧ w30.cell? ⟨gb120, 3, none⟩ = some (.int .i64 a1_3) := hS_
            refine norm_ (a' := ?_) ?_ ?_
            rotate_left
            · simp only [putAll, Act.put, List.setIfInBounds_toArray, List.set_cons_zero, List.set_cons_succ]
              rfl
            refine one_ (i := 14) (N := none) #[true, true, true, true, true, true, true, true, true, true, true, true, true, true, true, false] rfl rfl (one_of HT_.out (by kernel_rfl)) (by decide) (fun K hK => ?_)
            have hs31 : w30.cell? ⟨gb129, 0, none⟩ = some (.int .i64 0) := (blk_cell BK129.out 0).trans rfl
            have hfs31 := blk_frozen BK129.out 0
            have hns31_0 := NB118_129.out
            have hns31_1 := NB119_129.out
            have hns31_2 := NB120_129.out
            have hns31_4 := NB130_129.out
            have hms31_0 := NB129_118.out
            have hms31_1 := NB129_119.out
            have hms31_2 := NB129_120.out
            have hms31_4 := NB129_130.out
            have hs32 : w30.cell? ⟨gb129, 1, none⟩ = some (.int .i64 0) := (blk_cell BK129.out 1).trans rfl
            have hfs32 := blk_frozen BK129.out 1
            have hns32_0 := NB118_129.out
            have hns32_1 := NB119_129.out
            have hns32_2 := NB120_129.out
            have hns32_4 := NB130_129.out
            have hms32_0 := NB129_118.out
            have hms32_1 := NB129_119.out
            have hms32_2 := NB129_120.out
            have hms32_4 := NB129_130.out
            have hs33 : w30.cell? ⟨gb129, 2, none⟩ = some (.int .i64 0) := (blk_cell BK129.out 2).trans rfl
            have hfs33 := blk_frozen BK129.out 2
            have hns33_0 := NB118_129.out
            have hns33_1 := NB119_129.out
            have hns33_2 := NB120_129.out
            have hns33_4 := NB130_129.out
            have hms33_0 := NB129_118.out
            have hms33_1 := NB129_119.out
            have hms33_2 := NB129_120.out
            have hms33_4 := NB129_130.out
            have hs34 : w30.cell? ⟨gb129, 3, none⟩ = some (.int .i64 0) := (blk_cell BK129.out 3).trans rfl
            have hfs34 := blk_frozen BK129.out 3
            have hns34_0 := NB118_129.out
            have hns34_1 := NB119_129.out
            have hns34_2 := NB120_129.out
            have hns34_4 := NB130_129.out
            have hms34_0 := NB129_118.out
            have hms34_1 := NB129_119.out
            have hms34_2 := NB129_120.out
            have hms34_4 := NB129_130.out
            refine skip_ (w1 := ?_) (by rfl) rfl ?_ ?_
            rotate_left
            · go_simp
              rfl
            refine hK.out _ _ ⟨((cell_far (p := ⟨gb129, _, none⟩) NB118_129.out _).trans (((cell_far (p := ⟨gb129, _, none⟩) NB118_129.out _).trans (((cell_far (p := ⟨gb129, _, none⟩) NB118_129.out _).trans (((cell_far (p := ⟨gb129, _, none⟩) NB118_129.out _).trans (hHeld.1)))))))), ((cell_far (p := ⟨gb129, _, none⟩) NB118_129.out _).trans (((cell_far (p := ⟨gb129, _, none⟩) NB118_129.out _).trans (((cell_far (p := ⟨gb129, _, none⟩) NB118_129.out _).trans (((cell_far (p := ⟨gb129, _, none⟩) NB118_129.out _).trans (hHeld.2.1)))))))), ((cell_far (p := ⟨gb129, _, none⟩) NB118_129.out _).trans (((cell_far (p := ⟨gb129, _, none⟩) NB118_129.out _).trans (((cell_far (p := ⟨gb129, _, none⟩) NB118_129.out _).trans (((cell_far (p := ⟨gb129, _, none⟩) NB118_129.out _).trans (hHeld.2.2.1)))))))), ((cell_far (p := ⟨gb129, _, none⟩) NB118_129.out _).trans (((cell_far (p := ⟨gb129, _, none⟩) NB118_129.out _).trans (((cell_far (p := ⟨gb129, _, none⟩) NB118_129.out _).trans (((cell_far (p := ⟨gb129, _, none⟩) NB118_129.out _).trans (hHeld.2.2.2.1)))))))), ((cell_far (p := ⟨gb129, _, none⟩) NB118_129.out _).trans (((cell_far (p := ⟨gb129, _, none⟩) NB118_129.out _).trans (((cell_far (p := ⟨gb129, _, none⟩) NB118_129.out _).trans (((cell_far (p := ⟨gb129, _, none⟩) NB118_129.out _).trans (hHeld.2.2.2.2.1)))))))), ((cell_far (p := ⟨gb129, _, none⟩) NB118_129.out _).trans (((cell_far (p := ⟨gb129, _, none⟩) NB118_129.out _).trans (((cell_far (p := ⟨gb129, _, none⟩) NB118_129.out _).trans (((cell_far (p := ⟨gb129, _, none⟩) NB118_129.out _).trans (hHeld.2.2.2.2.2.1)))))))), ((cell_far (p := ⟨gb129, _, none⟩) NB118_129.out _).trans (((cell_far (p := ⟨gb129, _, none⟩) NB118_129.out _).trans (((cell_far (p := ⟨gb129, _, none⟩) NB118_129.out _).trans (((cell_far (p := ⟨gb129, _, none⟩) NB118_129.out _).trans (hHeld.2.2.2.2.2.2.1)))))))), ((cell_far (p := ⟨gb129, _, none⟩) NB119_129.out _).trans (((cell_far (p := ⟨gb129, _, none⟩) NB119_129.out _).trans (((cell_far (p := ⟨gb129, _, none⟩) NB119_129.out _).trans (((cell_far (p := ⟨gb129, _, none⟩) NB119_129.out _).trans (hHeld.2.2.2.2.2.2.2.1)))))))), ((cell_far (p := ⟨gb129, _, none⟩) NB119_129.out _).trans (((cell_far (p := ⟨gb129, _, none⟩) NB119_129.out _).trans (((cell_far (p := ⟨gb129, _, none⟩) NB119_129.out _).trans (((cell_far (p := ⟨gb129, _, none⟩) NB119_129.out _).trans (hHeld.2.2.2.2.2.2.2.2.1)))))))), ((cell_far (p := ⟨gb129, _, none⟩) NB119_129.out _).trans (((cell_far (p := ⟨gb129, _, none⟩) NB119_129.out _).trans (((cell_far (p := ⟨gb129, _, none⟩) NB119_129.out _).trans (((cell_far (p := ⟨gb129, _, none⟩) NB119_129.out _).trans (hHeld.2.2.2.2.2.2.2.2.2.1)))))))), ((cell_far (p := ⟨gb129, _, none⟩) NB119_129.out _).trans (((cell_far (p := ⟨gb129, _, none⟩) NB119_129.out _).trans (((cell_far (p := ⟨gb129, _, none⟩) NB119_129.out _).trans (((cell_far (p := ⟨gb129, _, none⟩) NB119_129.out _).trans (hHeld.2.2.2.2.2.2.2.2.2.2.1)))))))), ((cell_far (p := ⟨gb129, _, none⟩) NB120_129.out _).trans (((cell_far (p := ⟨gb129, _, none⟩) NB120_129.out _).trans (((cell_far (p := ⟨gb129, _, none⟩) NB120_129.out _).trans (((cell_far (p := ⟨gb129, _, none⟩) NB120_129.out _).trans (hHeld.2.2.2.2.2.2.2.2.2.2.2.1)))))))), ((cell_far (p := ⟨gb129, _, none⟩) NB120_129.out _).trans (((cell_far (p := ⟨gb129, _, none⟩) NB120_129.out _).trans (((cell_far (p := ⟨gb129, _, none⟩) NB120_129.out _).trans (((cell_far (p := ⟨gb129, _, none⟩) NB120_129.out _).trans (hHeld.2.2.2.2.2.2.2.2.2.2.2.2.1)))))))), ((cell_far (p := ⟨gb129, _, none⟩) NB120_129.out _).trans (((cell_far (p := ⟨gb129, _, none⟩) NB120_129.out _).trans (((cell_far (p := ⟨gb129, _, none⟩) NB120_129.out _).trans (((cell_far (p := ⟨gb129, _, none⟩) NB120_129.out _).trans (hHeld.2.2.2.2.2.2.2.2.2.2.2.2.2.1)))))))), ((cell_far (p := ⟨gb129, _, none⟩) NB120_129.out _).trans (((cell_far (p := ⟨gb129, _, none⟩) NB120_129.out _).trans (((cell_far (p := ⟨gb129, _, none⟩) NB120_129.out _).trans (((cell_far (p := ⟨gb129, _, none⟩) NB120_129.out _).trans (hHeld.2.2.2.2.2.2.2.2.2.2.2.2.2.2))))))))⟩ (fun hHeld => ?_)
            clear hK K
            refine one_ (i := 15) (N := none) #[true, true, true, true, true, true, true, true, true, true, true, true, true, true, true, true] rfl rfl (one_of HT_.out (by kernel_rfl)) (by decide) (fun K hK => ?_)
            have hs35 : w30.cell? ⟨gb130, 0, none⟩ = some (.int .i64 0) := (blk_cell BK130.out 0).trans rfl
            have hfs35 := blk_frozen BK130.out 0
            have hns35_0 := NB118_130.out
            have hns35_1 := NB119_130.out
            have hns35_2 := NB120_130.out
            have hns35_3 := NB129_130.out
            have hms35_0 := NB130_118.out
            have hms35_1 := NB130_119.out
            have hms35_2 := NB130_120.out
            have hms35_3 := NB130_129.out
            have hs36 : w30.cell? ⟨gb130, 1, none⟩ = some (.int .i64 0) := (blk_cell BK130.out 1).trans rfl
            have hfs36 := blk_frozen BK130.out 1
            have hns36_0 := NB118_130.out
            have hns36_1 := NB119_130.out
            have hns36_2 := NB120_130.out
            have hns36_3 := NB129_130.out
            have hms36_0 := NB130_118.out
            have hms36_1 := NB130_119.out
            have hms36_2 := NB130_120.out
            have hms36_3 := NB130_129.out
            have hs37 : w30.cell? ⟨gb130, 2, none⟩ = some (.int .i64 0) := (blk_cell BK130.out 2).trans rfl
            have hfs37 := blk_frozen BK130.out 2
            have hns37_0 := NB118_130.out
            have hns37_1 := NB119_130.out
            have hns37_2 := NB120_130.out
            have hns37_3 := NB129_130.out
            have hms37_0 := NB130_118.out
            have hms37_1 := NB130_119.out
            have hms37_2 := NB130_120.out
            have hms37_3 := NB130_129.out
            have hs38 : w30.cell? ⟨gb130, 3, none⟩ = some (.int .i64 0) := (blk_cell BK130.out 3).trans rfl
            have hfs38 := blk_frozen BK130.out 3
            have hns38_0 := NB118_130.out
            have hns38_1 := NB119_130.out
            have hns38_2 := NB120_130.out
            have hns38_3 := NB129_130.out
            have hms38_0 := NB130_118.out
            have hms38_1 := NB130_119.out
            have hms38_2 := NB130_120.out
            have hms38_3 := NB130_129.out
            refine skip_ (w1 := ?_) (by rfl) rfl ?_ ?_
            rotate_left
            · go_simp
              rfl
            refine hK.out _ _ ⟨((cell_far (p := ⟨gb130, _, none⟩) NB118_130.out _).trans (((cell_far (p := ⟨gb130, _, none⟩) NB118_130.out _).trans (((cell_far (p := ⟨gb130, _, none⟩) NB118_130.out _).trans (((cell_far (p := ⟨gb130, _, none⟩) NB118_130.out _).trans (hHeld.1)))))))), ((cell_far (p := ⟨gb130, _, none⟩) NB118_130.out _).trans (((cell_far (p := ⟨gb130, _, none⟩) NB118_130.out _).trans (((cell_far (p := ⟨gb130, _, none⟩) NB118_130.out _).trans (((cell_far (p := ⟨gb130, _, none⟩) NB118_130.out _).trans (hHeld.2.1)))))))), ((cell_far (p := ⟨gb130, _, none⟩) NB118_130.out _).trans (((cell_far (p := ⟨gb130, _, none⟩) NB118_130.out _).trans (((cell_far (p := ⟨gb130, _, none⟩) NB118_130.out _).trans (((cell_far (p := ⟨gb130, _, none⟩) NB118_130.out _).trans (hHeld.2.2.1)))))))), ((cell_far (p := ⟨gb130, _, none⟩) NB118_130.out _).trans (((cell_far (p := ⟨gb130, _, none⟩) NB118_130.out _).trans (((cell_far (p := ⟨gb130, _, none⟩) NB118_130.out _).trans (((cell_far (p := ⟨gb130, _, none⟩) NB118_130.out _).trans (hHeld.2.2.2.1)))))))), ((cell_far (p := ⟨gb130, _, none⟩) NB118_130.out _).trans (((cell_far (p := ⟨gb130, _, none⟩) NB118_130.out _).trans (((cell_far (p := ⟨gb130, _, none⟩) NB118_130.out _).trans (((cell_far (p := ⟨gb130, _, none⟩) NB118_130.out _).trans (hHeld.2.2.2.2.1)))))))), ((cell_far (p := ⟨gb130, _, none⟩) NB118_130.out _).trans (((cell_far (p := ⟨gb130, _, none⟩) NB118_130.out _).trans (((cell_far (p := ⟨gb130, _, none⟩) NB118_130.out _).trans (((cell_far (p := ⟨gb130, _, none⟩) NB118_130.out _).trans (hHeld.2.2.2.2.2.1)))))))), ((cell_far (p := ⟨gb130, _, none⟩) NB118_130.out _).trans (((cell_far (p := ⟨gb130, _, none⟩) NB118_130.out _).trans (((cell_far (p := ⟨gb130, _, none⟩) NB118_130.out _).trans (((cell_far (p := ⟨gb130, _, none⟩) NB118_130.out _).trans (hHeld.2.2.2.2.2.2.1)))))))), ((cell_far (p := ⟨gb130, _, none⟩) NB119_130.out _).trans (((cell_far (p := ⟨gb130, _, none⟩) NB119_130.out _).trans (((cell_far (p := ⟨gb130, _, none⟩) NB119_130.out _).trans (((cell_far (p := ⟨gb130, _, none⟩) NB119_130.out _).trans (hHeld.2.2.2.2.2.2.2.1)))))))), ((cell_far (p := ⟨gb130, _, none⟩) NB119_130.out _).trans (((cell_far (p := ⟨gb130, _, none⟩) NB119_130.out _).trans (((cell_far (p := ⟨gb130, _, none⟩) NB119_130.out _).trans (((cell_far (p := ⟨gb130, _, none⟩) NB119_130.out _).trans (hHeld.2.2.2.2.2.2.2.2.1)))))))), ((cell_far (p := ⟨gb130, _, none⟩) NB119_130.out _).trans (((cell_far (p := ⟨gb130, _, none⟩) NB119_130.out _).trans (((cell_far (p := ⟨gb130, _, none⟩) NB119_130.out _).trans (((cell_far (p := ⟨gb130, _, none⟩) NB119_130.out _).trans (hHeld.2.2.2.2.2.2.2.2.2.1)))))))), ((cell_far (p := ⟨gb130, _, none⟩) NB119_130.out _).trans (((cell_far (p := ⟨gb130, _, none⟩) NB119_130.out _).trans (((cell_far (p := ⟨gb130, _, none⟩) NB119_130.out _).trans (((cell_far (p := ⟨gb130, _, none⟩) NB119_130.out _).trans (hHeld.2.2.2.2.2.2.2.2.2.2.1)))))))), ((cell_far (p := ⟨gb130, _, none⟩) NB120_130.out _).trans (((cell_far (p := ⟨gb130, _, none⟩) NB120_130.out _).trans (((cell_far (p := ⟨gb130, _, none⟩) NB120_130.out _).trans (((cell_far (p := ⟨gb130, _, none⟩) NB120_130.out _).trans (hHeld.2.2.2.2.2.2.2.2.2.2.2.1)))))))), ((cell_far (p := ⟨gb130, _, none⟩) NB120_130.out _).trans (((cell_far (p := ⟨gb130, _, none⟩) NB120_130.out _).trans (((cell_far (p := ⟨gb130, _, none⟩) NB120_130.out _).trans (((cell_far (p := ⟨gb130, _, none⟩) NB120_130.out _).trans (hHeld.2.2.2.2.2.2.2.2.2.2.2.2.1)))))))), ((cell_far (p := ⟨gb130, _, none⟩) NB120_130.out _).trans (((cell_far (p := ⟨gb130, _, none⟩) NB120_130.out _).trans (((cell_far (p := ⟨gb130, _, none⟩) NB120_130.out _).trans (((cell_far (p := ⟨gb130, _, none⟩) NB120_130.out _).trans (hHeld.2.2.2.2.2.2.2.2.2.2.2.2.2.1)))))))), ((cell_far (p := ⟨gb130, _, none⟩) NB120_130.out _).trans (((cell_far (p := ⟨gb130, _, none⟩) NB120_130.out _).trans (((cell_far (p := ⟨gb130, _, none⟩) NB120_130.out _).trans (((cell_far (p := ⟨gb130, _, none⟩) NB120_130.out _).trans (hHeld.2.2.2.2.2.2.2.2.2.2.2.2.2.2))))))))⟩ (fun hHeld => ?_)
            clear hK K
            refine done_ (done_of HT_.out (by kernel_rfl)) ?_
            try go_wp2
            have n0_ : Aside0 (((((((((w30.setCell ⟨gb129, 0, none⟩ (.int .i64 t121)).setCell ⟨gb129, 1, none⟩ (.int .i64 t122)).setCell ⟨gb129, 2, none⟩ (.int .i64 t123)).setCell ⟨gb129, 3, none⟩ (.int .i64 t124)).setCell ⟨gb130, 0, none⟩ (.int .i64 t125)).setCell ⟨gb130, 1, none⟩ (.int .i64 t126)).setCell ⟨gb130, 2, none⟩ (.int .i64 t127)).setCell ⟨gb130, 3, none⟩ (.int .i64 t128)).heap[gb118]? = some (.cells #[.int .i64 a0_0, .int .i64 a0_1, .int .i64 a0_2, .int .i64 a0_3, .int .i64 a0_4, .int .i64 a0_5, .int .i64 a0_6] 29 (0, 0))) := ⟨by (with_reducible repeat (first | refine blk_drewN ?_ _ | refine blk_drew ?_ | refine blk_alloc ?_ _)); refine blk_far ?_ NB118_130.out _; (with_reducible repeat (first | refine blk_drewN ?_ _ | refine blk_drew ?_ | refine blk_alloc ?_ _)); refine blk_far ?_ NB118_130.out _; (with_reducible repeat (first | refine blk_drewN ?_ _ | refine blk_drew ?_ | refine blk_alloc ?_ _)); refine blk_far ?_ NB118_130.out _; (with_reducible repeat (first | refine blk_drewN ?_ _ | refine blk_drew ?_ | refine blk_alloc ?_ _)); refine blk_far ?_ NB118_130.out _; (with_reducible repeat (first | refine blk_drewN ?_ _ | refine blk_drew ?_ | refine blk_alloc ?_ _)); refine blk_far ?_ NB118_129.out _; (with_reducible repeat (first | refine blk_drewN ?_ _ | refine blk_drew ?_ | refine blk_alloc ?_ _)); refine blk_far ?_ NB118_129.out _; (with_reducible repeat (first | refine blk_drewN ?_ _ | refine blk_drew ?_ | refine blk_alloc ?_ _)); refine blk_far ?_ NB118_129.out _; (with_reducible repeat (first | refine blk_drewN ?_ _ | refine blk_drew ?_ | refine blk_alloc ?_ _)); refine blk_far ?_ NB118_129.out _; (with_reducible repeat (first | refine blk_drewN ?_ _ | refine blk_drew ?_ | refine blk_alloc ?_ _)); exact BK118.out⟩
            have n1_ : Aside0 (((((((((w30.setCell ⟨gb129, 0, none⟩ (.int .i64 t121)).setCell ⟨gb129, 1, none⟩ (.int .i64 t122)).setCell ⟨gb129, 2, none⟩ (.int .i64 t123)).setCell ⟨gb129, 3, none⟩ (.int .i64 t124)).setCell ⟨gb130, 0, none⟩ (.int .i64 t125)).setCell ⟨gb130, 1, none⟩ (.int .i64 t126)).setCell ⟨gb130, 2, none⟩ (.int .i64 t127)).setCell ⟨gb130, 3, none⟩ (.int .i64 t128)).heap[gb119]? = some (.cells #[.int .i64 a1_0, .int .i64 a1_1, .int .i64 a1_2, .int .i64 a1_3] 53 (0, 0))) := ⟨by (with_reducible repeat (first | refine blk_drewN ?_ _ | refine blk_drew ?_ | refine blk_alloc ?_ _)); refine blk_far ?_ NB119_130.out _; (with_reducible repeat (first | refine blk_drewN ?_ _ | refine blk_drew ?_ | refine blk_alloc ?_ _)); refine blk_far ?_ NB119_130.out _; (with_reducible repeat (first | refine blk_drewN ?_ _ | refine blk_drew ?_ | refine blk_alloc ?_ _)); refine blk_far ?_ NB119_130.out _; (with_reducible repeat (first | refine blk_drewN ?_ _ | refine blk_drew ?_ | refine blk_alloc ?_ _)); refine blk_far ?_ NB119_130.out _; (with_reducible repeat (first | refine blk_drewN ?_ _ | refine blk_drew ?_ | refine blk_alloc ?_ _)); refine blk_far ?_ NB119_129.out _; (with_reducible repeat (first | refine blk_drewN ?_ _ | refine blk_drew ?_ | refine blk_alloc ?_ _)); refine blk_far ?_ NB119_129.out _; (with_reducible repeat (first | refine blk_drewN ?_ _ | refine blk_drew ?_ | refine blk_alloc ?_ _)); refine blk_far ?_ NB119_129.out _; (with_reducible repeat (first | refine blk_drewN ?_ _ | refine blk_drew ?_ | refine blk_alloc ?_ _)); refine blk_far ?_ NB119_129.out _; (with_reducible repeat (first | refine blk_drewN ?_ _ | refine blk_drew ?_ | refine blk_alloc ?_ _)); exact BK119.out⟩
            have n2_ : Aside0 (((((((((w30.setCell ⟨gb129, 0, none⟩ (.int .i64 t121)).setCell ⟨gb129, 1, none⟩ (.int .i64 t122)).setCell ⟨gb129, 2, none⟩ (.int .i64 t123)).setCell ⟨gb129, 3, none⟩ (.int .i64 t124)).setCell ⟨gb130, 0, none⟩ (.int .i64 t125)).setCell ⟨gb130, 1, none⟩ (.int .i64 t126)).setCell ⟨gb130, 2, none⟩ (.int .i64 t127)).setCell ⟨gb130, 3, none⟩ (.int .i64 t128)).heap[gb120]? = some (.cells #[.int .i64 a1_0, .int .i64 a1_1, .int .i64 a1_2, .int .i64 a1_3] 54 (0, 0))) := ⟨by (with_reducible repeat (first | refine blk_drewN ?_ _ | refine blk_drew ?_ | refine blk_alloc ?_ _)); refine blk_far ?_ NB120_130.out _; (with_reducible repeat (first | refine blk_drewN ?_ _ | refine blk_drew ?_ | refine blk_alloc ?_ _)); refine blk_far ?_ NB120_130.out _; (with_reducible repeat (first | refine blk_drewN ?_ _ | refine blk_drew ?_ | refine blk_alloc ?_ _)); refine blk_far ?_ NB120_130.out _; (with_reducible repeat (first | refine blk_drewN ?_ _ | refine blk_drew ?_ | refine blk_alloc ?_ _)); refine blk_far ?_ NB120_130.out _; (with_reducible repeat (first | refine blk_drewN ?_ _ | refine blk_drew ?_ | refine blk_alloc ?_ _)); refine blk_far ?_ NB120_129.out _; (with_reducible repeat (first | refine blk_drewN ?_ _ | refine blk_drew ?_ | refine blk_alloc ?_ _)); refine blk_far ?_ NB120_129.out _; (with_reducible repeat (first | refine blk_drewN ?_ _ | refine blk_drew ?_ | refine blk_alloc ?_ _)); refine blk_far ?_ NB120_129.out _; (with_reducible repeat (first | refine blk_drewN ?_ _ | refine blk_drew ?_ | refine blk_alloc ?_ _)); refine blk_far ?_ NB120_129.out _; (with_reducible repeat (first | refine blk_drewN ?_ _ | refine blk_drew ?_ | refine blk_alloc ?_ _)); exact BK120.out⟩
            have n3_ : Aside0 (((((((((w30.setCell ⟨gb129, 0, none⟩ (.int .i64 t121)).setCell ⟨gb129, 1, none⟩ (.int .i64 t122)).setCell ⟨gb129, 2, none⟩ (.int .i64 t123)).setCell ⟨gb129, 3, none⟩ (.int .i64 t124)).setCell ⟨gb130, 0, none⟩ (.int .i64 t125)).setCell ⟨gb130, 1, none⟩ (.int .i64 t126)).setCell ⟨gb130, 2, none⟩ (.int .i64 t127)).setCell ⟨gb130, 3, none⟩ (.int .i64 t128)).heap[gb129]? = some (.cells #[.int .i64 t121, .int .i64 t122, .int .i64 t123, .int .i64 t124] 53 (0, 0))) := ⟨by (with_reducible repeat (first | refine blk_drewN ?_ _ | refine blk_drew ?_ | refine blk_alloc ?_ _)); refine blk_far ?_ NB129_130.out _; (with_reducible repeat (first | refine blk_drewN ?_ _ | refine blk_drew ?_ | refine blk_alloc ?_ _)); refine blk_far ?_ NB129_130.out _; (with_reducible repeat (first | refine blk_drewN ?_ _ | refine blk_drew ?_ | refine blk_alloc ?_ _)); refine blk_far ?_ NB129_130.out _; (with_reducible repeat (first | refine blk_drewN ?_ _ | refine blk_drew ?_ | refine blk_alloc ?_ _)); refine blk_far ?_ NB129_130.out _; (with_reducible repeat (first | refine blk_drewN ?_ _ | refine blk_drew ?_ | refine blk_alloc ?_ _)); refine blk_put (cs := #[.int .i64 t121, .int .i64 t122, .int .i64 t123, .int .i64 0]) ?_ 3 _ rfl; (with_reducible repeat (first | refine blk_drewN ?_ _ | refine blk_drew ?_ | refine blk_alloc ?_ _)); refine blk_put (cs := #[.int .i64 t121, .int .i64 t122, .int .i64 0, .int .i64 0]) ?_ 2 _ rfl; (with_reducible repeat (first | refine blk_drewN ?_ _ | refine blk_drew ?_ | refine blk_alloc ?_ _)); refine blk_put (cs := #[.int .i64 t121, .int .i64 0, .int .i64 0, .int .i64 0]) ?_ 1 _ rfl; (with_reducible repeat (first | refine blk_drewN ?_ _ | refine blk_drew ?_ | refine blk_alloc ?_ _)); refine blk_put (cs := #[.int .i64 0, .int .i64 0, .int .i64 0, .int .i64 0]) ?_ 0 _ rfl; (with_reducible repeat (first | refine blk_drewN ?_ _ | refine blk_drew ?_ | refine blk_alloc ?_ _)); exact BK129.out⟩
            have n4_ : Aside0 (((((((((w30.setCell ⟨gb129, 0, none⟩ (.int .i64 t121)).setCell ⟨gb129, 1, none⟩ (.int .i64 t122)).setCell ⟨gb129, 2, none⟩ (.int .i64 t123)).setCell ⟨gb129, 3, none⟩ (.int .i64 t124)).setCell ⟨gb130, 0, none⟩ (.int .i64 t125)).setCell ⟨gb130, 1, none⟩ (.int .i64 t126)).setCell ⟨gb130, 2, none⟩ (.int .i64 t127)).setCell ⟨gb130, 3, none⟩ (.int .i64 t128)).heap[gb130]? = some (.cells #[.int .i64 t125, .int .i64 t126, .int .i64 t127, .int .i64 t128] 54 (0, 0))) := ⟨by (with_reducible repeat (first | refine blk_drewN ?_ _ | refine blk_drew ?_ | refine blk_alloc ?_ _)); refine blk_put (cs := #[.int .i64 t125, .int .i64 t126, .int .i64 t127, .int .i64 0]) ?_ 3 _ rfl; (with_reducible repeat (first | refine blk_drewN ?_ _ | refine blk_drew ?_ | refine blk_alloc ?_ _)); refine blk_put (cs := #[.int .i64 t125, .int .i64 t126, .int .i64 0, .int .i64 0]) ?_ 2 _ rfl; (with_reducible repeat (first | refine blk_drewN ?_ _ | refine blk_drew ?_ | refine blk_alloc ?_ _)); refine blk_put (cs := #[.int .i64 t125, .int .i64 0, .int .i64 0, .int .i64 0]) ?_ 1 _ rfl; (with_reducible repeat (first | refine blk_drewN ?_ _ | refine blk_drew ?_ | refine blk_alloc ?_ _)); refine blk_put (cs := #[.int .i64 0, .int .i64 0, .int .i64 0, .int .i64 0]) ?_ 0 _ rfl; (with_reducible repeat (first | refine blk_drewN ?_ _ | refine blk_drew ?_ | refine blk_alloc ?_ _)); refine blk_far ?_ NB130_129.out _; (with_reducible repeat (first | refine blk_drewN ?_ _ | refine blk_drew ?_ | refine blk_alloc ?_ _)); refine blk_far ?_ NB130_129.out _; (with_reducible repeat (first | refine blk_drewN ?_ _ | refine blk_drew ?_ | refine blk_alloc ?_ _)); refine blk_far ?_ NB130_129.out _; (with_reducible repeat (first | refine blk_drewN ?_ _ | refine blk_drew ?_ | refine blk_alloc ?_ _)); refine blk_far ?_ NB130_129.out _; (with_reducible repeat (first | refine blk_drewN ?_ _ | refine blk_drew ?_ | refine blk_alloc ?_ _)); exact BK130.out⟩
            have n5_ : Aside0 (Below w.heap.size w ((((((((w30.setCell ⟨gb129, 0, none⟩ (.int .i64 t121)).setCell ⟨gb129, 1, none⟩ (.int .i64 t122)).setCell ⟨gb129, 2, none⟩ (.int .i64 t123)).setCell ⟨gb129, 3, none⟩ (.int .i64 t124)).setCell ⟨gb130, 0, none⟩ (.int .i64 t125)).setCell ⟨gb130, 1, none⟩ (.int .i64 t126)).setCell ⟨gb130, 2, none⟩ (.int .i64 t127)).setCell ⟨gb130, 3, none⟩ (.int .i64 t128))) := ⟨by repeat (first | (with_reducible first | exact HB.out | apply below_alloc | apply pw_below_drewN | apply below_drew1 | refine below_set ?_ GE118.out | refine below_set ?_ GE119.out | refine below_set ?_ GE120.out | refine below_set ?_ GE129.out | refine below_set ?_ GE130.out) | exact HB.out)⟩
            (try clear BK118)
            (try clear BK119)
            (try clear BK120)
            (try clear BK129)
            (try clear BK130)
            (try clear HB)
            generalize ((((((((w30.setCell ⟨gb129, 0, none⟩ (.int .i64 t121)).setCell ⟨gb129, 1, none⟩ (.int .i64 t122)).setCell ⟨gb129, 2, none⟩ (.int .i64 t123)).setCell ⟨gb129, 3, none⟩ (.int .i64 t124)).setCell ⟨gb130, 0, none⟩ (.int .i64 t125)).setCell ⟨gb130, 1, none⟩ (.int .i64 t126)).setCell ⟨gb130, 2, none⟩ (.int .i64 t127)).setCell ⟨gb130, 3, none⟩ (.int .i64 t128)) = w39 at n0_ n1_ n2_ n3_ n4_ n5_ ⊢
            have BK118 := n0_
            have BK119 := n1_
            have BK120 := n2_
            have BK129 := n3_
            have BK130 := n4_
            have HB := n5_
            clear n0_ n1_ n2_ n3_ n4_ n5_
            have n0_ := Aside0.mk (blk_drew BK118.out)
            have n1_ := Aside0.mk (blk_drew BK119.out)
            have n2_ := Aside0.mk (blk_drew BK120.out)
            have n3_ := Aside0.mk (blk_drew BK129.out)
            have n4_ := Aside0.mk (blk_drew BK130.out)
            have n5_ := Aside0.mk (below_drew1 HB.out)
            clear BK118
            clear BK119
            clear BK120
            clear BK129
            clear BK130
            clear HB
            have BK118 := n0_
            have BK119 := n1_
            have BK120 := n2_
            have BK129 := n3_
            have BK130 := n4_
            have HB := n5_
            clear n0_ n1_ n2_ n3_ n4_ n5_
            refine start_ (n := 45) (S := fun w' => w'.cell? ⟨gb118, 0, none⟩ = some (.int .i64 a0_0) ∧ w'.cell? ⟨gb118, 1, none⟩ = some (.int .i64 a0_1) ∧ w'.cell? ⟨gb118, 2, none⟩ = some (.int .i64 a0_2) ∧ w'.cell? ⟨gb118, 3, none⟩ = some (.int .i64 a0_3) ∧ w'.cell? ⟨gb118, 4, none⟩ = some (.int .i64 a0_4) ∧ w'.cell? ⟨gb118, 5, none⟩ = some (.int .i64 a0_5) ∧ w'.cell? ⟨gb118, 6, none⟩ = some (.int .i64 a0_6) ∧ w'.cell? ⟨gb119, 0, none⟩ = some (.int .i64 a1_0) ∧ w'.cell? ⟨gb119, 1, none⟩ = some (.int .i64 a1_1) ∧ w'.cell? ⟨gb119, 2, none⟩ = some (.int .i64 a1_2) ∧ w'.cell? ⟨gb119, 3, none⟩ = some (.int .i64 a1_3) ∧ w'.cell? ⟨gb120, 0, none⟩ = some (.int .i64 a1_0) ∧ w'.cell? ⟨gb120, 1, none⟩ = some (.int .i64 a1_1) ∧ w'.cell? ⟨gb120, 2, none⟩ = some (.int .i64 a1_2) ∧ w'.cell? ⟨gb120, 3, none⟩ = some (.int .i64 a1_3) ∧ w'.cell? ⟨gb129, 0, none⟩ = some (.int .i64 t121) ∧ w'.cell? ⟨gb129, 1, none⟩ = some (.int .i64 t122) ∧ w'.cell? ⟨gb129, 2, none⟩ = some (.int .i64 t123) ∧ w'.cell? ⟨gb129, 3, none⟩ = some (.int .i64 t124) ∧ w'.cell? ⟨gb130, 0, none⟩ = some (.int .i64 t125) ∧ w'.cell? ⟨gb130, 1, none⟩ = some (.int .i64 t126) ∧ w'.cell? ⟨gb130, 2, none⟩ = some (.int .i64 t127) ∧ w'.cell? ⟨gb130, 3, none⟩ = some (.int .i64 t128)) (ds := []) #[false, false, false, false, false, false, false, false, false, false, false, false, false, false, false, false, false, false, false, false, false, false, false, false, false, false, false, false, false, false, false, false, false, false, false, false, false, false, false, false, false, false, false, false, false] (by kernel_rfl) rfl rfl ⟨(blk_cell BK118.out 0).trans rfl, (blk_cell BK118.out 1).trans rfl, (blk_cell BK118.out 2).trans rfl, (blk_cell BK118.out 3).trans rfl, (blk_cell BK118.out 4).trans rfl, (blk_cell BK118.out 5).trans rfl, (blk_cell BK118.out 6).trans rfl, (blk_cell BK119.out 0).trans rfl, (blk_cell BK119.out 1).trans rfl, (blk_cell BK119.out 2).trans rfl, (blk_cell BK119.out 3).trans rfl, (blk_cell BK120.out 0).trans rfl, (blk_cell BK120.out 1).trans rfl, (blk_cell BK120.out 2).trans rfl, (blk_cell BK120.out 3).trans rfl, (blk_cell BK129.out 0).trans rfl, (blk_cell BK129.out 1).trans rfl, (blk_cell BK129.out 2).trans rfl, (blk_cell BK129.out 3).trans rfl, (blk_cell BK130.out 0).trans rfl, (blk_cell BK130.out 1).trans rfl, (blk_cell BK130.out 2).trans rfl, (blk_cell BK130.out 3).trans rfl⟩ (fun hHeld => ?_); refine with_tabW beguinagelaw22_QuotaAll.tab3 beguinagelaw22_QuotaAll.bits3 (fun HT_ HW_ => ?_)
            generalize w39.drew = w40 at BK118 BK119 BK120 BK129 BK130 HB hHeld ⊢
            refine pure_ (i := 2) (N := some 37) (v := ?_) (a' := ?_) #[false, false, true, false, false, false, false, false, false, false, false, false, false, false, false, false, false, false, false, false, false, false, false, false, false, false, false, false, false, false, false, false, false, false, false, false, false, false, false, false, false, false, false, false, false] rfl rfl (any_of HT_.out (by kernel_rfl)) (fun _ _ _ h => h) (Or.inl ⟨by rfl, ?_⟩) ?_ ?_
            rotate_left
            · intro w'
              go_simp
              with_reducible rfl
            rotate_left
            · simp only [Act.put, List.setIfInBounds_toArray, List.set_cons_zero, List.set_cons_succ, i64_w, i32_w]
              rfl
            refine pure_ (i := 3) (N := some 38) (v := ?_) (a' := ?_) #[false, false, true, true, false, false, false, false, false, false, false, false, false, false, false, false, false, false, false, false, false, false, false, false, false, false, false, false, false, false, false, false, false, false, false, false, false, false, false, false, false, false, false, false, false] rfl rfl (any_of HT_.out (by kernel_rfl)) (fun _ _ _ h => h) (Or.inl ⟨by rfl, ?_⟩) ?_ ?_
            rotate_left
            · intro w'
              go_simp
              with_reducible rfl
            rotate_left
            · simp only [Act.put, List.setIfInBounds_toArray, List.set_cons_zero, List.set_cons_succ, i64_w, i32_w]
              rfl
            refine pure_ (i := 4) (N := some 39) (v := ?_) (a' := ?_) #[false, false, true, true, true, false, false, false, false, false, false, false, false, false, false, false, false, false, false, false, false, false, false, false, false, false, false, false, false, false, false, false, false, false, false, false, false, false, false, false, false, false, false, false, false] rfl rfl (any_of HT_.out (by kernel_rfl)) (fun _ _ _ h => h) (Or.inl ⟨by rfl, ?_⟩) ?_ ?_
            rotate_left
            · intro w'
              go_simp
              with_reducible rfl
            rotate_left
            · simp only [Act.put, List.setIfInBounds_toArray, List.set_cons_zero, List.set_cons_succ, i64_w, i32_w]
              rfl
            refine pure_ (i := 8) (N := some 43) (v := ?_) (a' := ?_) #[false, false, true, true, true, false, false, false, true, false, false, false, false, false, false, false, false, false, false, false, false, false, false, false, false, false, false, false, false, false, false, false, false, false, false, false, false, false, false, false, false, false, false, false, false] rfl rfl (any_of HT_.out (by kernel_rfl)) (fun _ _ _ h => h) (Or.inl ⟨by rfl, ?_⟩) ?_ ?_
            rotate_left
            · intro w'
              go_simp
              with_reducible rfl
            rotate_left
            · simp only [Act.put, List.setIfInBounds_toArray, List.set_cons_zero, List.set_cons_succ, i64_w, i32_w]
              rfl
            refine pure_ (i := 9) (N := some 44) (v := ?_) (a' := ?_) #[false, false, true, true, true, false, false, false, true, true, false, false, false, false, false, false, false, false, false, false, false, false, false, false, false, false, false, false, false, false, false, false, false, false, false, false, false, false, false, false, false, false, false, false, false] rfl rfl (any_of HT_.out (by kernel_rfl)) (fun _ _ _ h => h) (Or.inl ⟨by rfl, ?_⟩) ?_ ?_
            rotate_left
            · intro w'
              go_simp
              with_reducible rfl
            rotate_left
            · simp only [Act.put, List.setIfInBounds_toArray, List.set_cons_zero, List.set_cons_succ, i64_w, i32_w]
              rfl
            refine pure_ (i := 10) (N := some 45) (v := ?_) (a' := ?_) #[false, false, true, true, true, false, false, false, true, true, true, false, false, false, false, false, false, false, false, false, false, false, false, false, false, false, false, false, false, false, false, false, false, false, false, false, false, false, false, false, false, false, false, false, false] rfl rfl (any_of HT_.out (by kernel_rfl)) (fun _ _ _ h => h) (Or.inl ⟨by rfl, ?_⟩) ?_ ?_
            rotate_left
            · intro w'
              go_simp
              with_reducible rfl
            rotate_left
            · simp only [Act.put, List.setIfInBounds_toArray, List.set_cons_zero, List.set_cons_succ, i64_w, i32_w]
              rfl
            refine take_ (i := 0) (N := some 35) (v := ?_) (a' := ?_) #[true, false, true, true, true, false, false, false, true, true, true, false, false, false, false, false, false, false, false, false, false, false, false, false, false, false, false, false, false, false, false, false, false, false, false, false, false, false, false, false, false, false, false, false, false] rfl rfl (take_ofW HT_.out HW_.out (by kernel_rfl)) (fun _ _ _ h => h) (Or.inl ⟨by rfl, ?_⟩) hHeld ?_ ?_
            rotate_left
            · rintro w' ⟨s0, s1, s2, s3, s4, s5, s6, s7, s8, s9, s10, s11, s12, s13, s14, s15, s16, s17, s18, s19, s20, s21, s22⟩
              go_simp
              with_reducible rfl
            rotate_left
            · simp only [Act.put, List.setIfInBounds_toArray, List.set_cons_zero, List.set_cons_succ, i64_w, i32_w]
              rfl
            refine take_ (i := 1) (N := some 36) (v := ?_) (a' := ?_) #[true, true, true, true, true, false, false, false, true, true, true, false, false, false, false, false, false, false, false, false, false, false, false, false, false, false, false, false, false, false, false, false, false, false, false, false, false, false, false, false, false, false, false, false, false] rfl rfl (take_ofW HT_.out HW_.out (by kernel_rfl)) (fun _ _ _ h => h) (Or.inl ⟨by rfl, ?_⟩) hHeld ?_ ?_
            rotate_left
            · rintro w' ⟨s0, s1, s2, s3, s4, s5, s6, s7, s8, s9, s10, s11, s12, s13, s14, s15, s16, s17, s18, s19, s20, s21, s22⟩
              go_simp
              with_reducible rfl
            rotate_left
            · simp only [Act.put, List.setIfInBounds_toArray, List.set_cons_zero, List.set_cons_succ, i64_w, i32_w]
              rfl
            refine take_ (i := 6) (N := some 41) (v := ?_) (a' := ?_) #[true, true, true, true, true, false, true, false, true, true, true, false, false, false, false, false, false, false, false, false, false, false, false, false, false, false, false, false, false, false, false, false, false, false, false, false, false, false, false, false, false, false, false, false, false] rfl rfl (take_ofW HT_.out HW_.out (by kernel_rfl)) (fun _ _ _ h => h) (Or.inl ⟨by rfl, ?_⟩) hHeld ?_ ?_
            rotate_left
            · rintro w' ⟨s0, s1, s2, s3, s4, s5, s6, s7, s8, s9, s10, s11, s12, s13, s14, s15, s16, s17, s18, s19, s20, s21, s22⟩
              go_simp
              with_reducible rfl
            rotate_left
            · simp only [Act.put, List.setIfInBounds_toArray, List.set_cons_zero, List.set_cons_succ, i64_w, i32_w]
              rfl
            refine take_ (i := 7) (N := some 42) (v := ?_) (a' := ?_) #[true, true, true, true, true, false, true, true, true, true, true, false, false, false, false, false, false, false, false, false, false, false, false, false, false, false, false, false, false, false, false, false, false, false, false, false, false, false, false, false, false, false, false, false, false] rfl rfl (take_ofW HT_.out HW_.out (by kernel_rfl)) (fun _ _ _ h => h) (Or.inl ⟨by rfl, ?_⟩) hHeld ?_ ?_
            rotate_left
            · rintro w' ⟨s0, s1, s2, s3, s4, s5, s6, s7, s8, s9, s10, s11, s12, s13, s14, s15, s16, s17, s18, s19, s20, s21, s22⟩
              go_simp
              with_reducible rfl
            rotate_left
            · simp only [Act.put, List.setIfInBounds_toArray, List.set_cons_zero, List.set_cons_succ, i64_w, i32_w]
              rfl
            refine one_ (i := 5) (N := some 40) #[true, true, true, true, true, true, true, true, true, true, true, false, false, false, false, false, false, false, false, false, false, false, false, false, false, false, false, false, false, false, false, false, false, false, false, false, false, false, false, false, false, false, false, false, false] rfl rfl (one_of HT_.out (by kernel_rfl)) (by decide) (fun K hK => ?_)
            refine goes_ Try.func29 (by kernel_rfl) rfl #[.agg #[.int .i64 a0_0, .int .i64 a0_1, .int .i64 a0_2, .int .i64 a0_3, .int .i64 a0_4, .int .i64 a0_5, .int .i64 a0_6], .agg #[.int .i64 a1_0, .int .i64 a1_1, .int .i64 a1_2, .int .i64 a1_3], .int .i64 a2, .int .i64 a3, .int .i64 a4] (by rfl) rfl rfl (by (try simp only [List.map_toArray, List.map_cons, List.map_nil]); first | done | rfl | (simp only [List.length_drop, List.length_take]; rfl)) ?_
            with_reducible refine (quota_May.calls a0_0 a0_1 a0_2 a0_3 a0_4 a0_5 a0_6 a1_0 a1_1 a1_2 a1_3 a2 a3 a4 t131 _ A8.out).mono ?_
            rintro e w41 ⟨rfl, hb⟩
            refine ⟨_, rfl, ?_⟩
            have n0_ := Aside0.mk (blk_below (blk_l BK118.out) hb)
            have n1_ := Aside0.mk (blk_below (blk_l BK119.out) hb)
            have n2_ := Aside0.mk (blk_below (blk_l BK120.out) hb)
            have n3_ := Aside0.mk (blk_below (blk_l BK129.out) hb)
            have n4_ := Aside0.mk (blk_below (blk_l BK130.out) hb)
            have n5_ := Aside0.mk (below_step (by repeat (first | (with_reducible first | exact HB.out | apply below_alloc | apply pw_below_drewN | apply below_drew1 | refine below_set ?_ GE118.out | refine below_set ?_ GE119.out | refine below_set ?_ GE120.out | refine below_set ?_ GE129.out | refine below_set ?_ GE130.out) | exact HB.out)) hb)
            clear BK118
            clear BK119
            clear BK120
            clear BK129
            clear BK130
            clear HB
            have BK118 := n0_
            have BK119 := n1_
            have BK120 := n2_
            have BK129 := n3_
            have BK130 := n4_
            have HB := n5_
            clear n0_ n1_ n2_ n3_ n4_ n5_
            (try clear hb)
            (try clear hb2)
            (try clear hk)
            (try clear hi)
            refine hK.out _ _ ⟨(blk_cell BK118.out 0).trans rfl, (blk_cell BK118.out 1).trans rfl, (blk_cell BK118.out 2).trans rfl, (blk_cell BK118.out 3).trans rfl, (blk_cell BK118.out 4).trans rfl, (blk_cell BK118.out 5).trans rfl, (blk_cell BK118.out 6).trans rfl, (blk_cell BK119.out 0).trans rfl, (blk_cell BK119.out 1).trans rfl, (blk_cell BK119.out 2).trans rfl, (blk_cell BK119.out 3).trans rfl, (blk_cell BK120.out 0).trans rfl, (blk_cell BK120.out 1).trans rfl, (blk_cell BK120.out 2).trans rfl, (blk_cell BK120.out 3).trans rfl, (blk_cell BK129.out 0).trans rfl, (blk_cell BK129.out 1).trans rfl, (blk_cell BK129.out 2).trans rfl, (blk_cell BK129.out 3).trans rfl, (blk_cell BK130.out 0).trans rfl, (blk_cell BK130.out 1).trans rfl, (blk_cell BK130.out 2).trans rfl, (blk_cell BK130.out 3).trans rfl⟩ (fun hHeld => ?_)
            clear hK K
            refine norm_ (a' := ?_) ?_ ?_
            rotate_left
            · show Act.put _ (some 40) _ = _
              simp only [Act.put, List.setIfInBounds_toArray, List.set_cons_zero, List.set_cons_succ, i64_w, i32_w]
              rfl
            refine one_ (i := 11) (N := some 46) #[true, true, true, true, true, true, true, true, true, true, true, true, false, false, false, false, false, false, false, false, false, false, false, false, false, false, false, false, false, false, false, false, false, false, false, false, false, false, false, false, false, false, false, false, false] rfl rfl (one_of HT_.out (by kernel_rfl)) (by decide) (fun K hK => ?_)
            refine goes_ Try.func30 (by kernel_rfl) rfl #[.agg #[.int .i64 a0_0, .int .i64 a0_1, .int .i64 a0_2, .int .i64 a0_3, .int .i64 a0_4, .int .i64 a0_5, .int .i64 a0_6], .agg #[.int .i64 a1_0, .int .i64 a1_1, .int .i64 a1_2, .int .i64 a1_3], .int .i64 a2, .int .i64 a3, .int .i64 a4] (by rfl) rfl rfl (by (try simp only [List.map_toArray, List.map_cons, List.map_nil]); first | done | rfl | (simp only [List.length_drop, List.length_take]; rfl)) ?_
            with_reducible refine (beguinageref22_May.calls a0_0 a0_1 a0_2 a0_3 a0_4 a0_5 a0_6 a1_0 a1_1 a1_2 a1_3 a2 a3 a4 t132 _ A9.out).mono ?_
            rintro e w42 ⟨rfl, hb⟩
            refine ⟨_, rfl, ?_⟩
            have n0_ := Aside0.mk (blk_below (blk_l BK118.out) hb)
            have n1_ := Aside0.mk (blk_below (blk_l BK119.out) hb)
            have n2_ := Aside0.mk (blk_below (blk_l BK120.out) hb)
            have n3_ := Aside0.mk (blk_below (blk_l BK129.out) hb)
            have n4_ := Aside0.mk (blk_below (blk_l BK130.out) hb)
            have n5_ := Aside0.mk (below_step (by repeat (first | (with_reducible first | exact HB.out | apply below_alloc | apply pw_below_drewN | apply below_drew1 | refine below_set ?_ GE118.out | refine below_set ?_ GE119.out | refine below_set ?_ GE120.out | refine below_set ?_ GE129.out | refine below_set ?_ GE130.out) | exact HB.out)) hb)
            clear BK118
            clear BK119
            clear BK120
            clear BK129
            clear BK130
            clear HB
            have BK118 := n0_
            have BK119 := n1_
            have BK120 := n2_
            have BK129 := n3_
            have BK130 := n4_
            have HB := n5_
            clear n0_ n1_ n2_ n3_ n4_ n5_
            (try clear hb)
            (try clear hb2)
            (try clear hk)
            (try clear hi)
            refine hK.out _ _ ⟨(blk_cell BK118.out 0).trans rfl, (blk_cell BK118.out 1).trans rfl, (blk_cell BK118.out 2).trans rfl, (blk_cell BK118.out 3).trans rfl, (blk_cell BK118.out 4).trans rfl, (blk_cell BK118.out 5).trans rfl, (blk_cell BK118.out 6).trans rfl, (blk_cell BK119.out 0).trans rfl, (blk_cell BK119.out 1).trans rfl, (blk_cell BK119.out 2).trans rfl, (blk_cell BK119.out 3).trans rfl, (blk_cell BK120.out 0).trans rfl, (blk_cell BK120.out 1).trans rfl, (blk_cell BK120.out 2).trans rfl, (blk_cell BK120.out 3).trans rfl, (blk_cell BK129.out 0).trans rfl, (blk_cell BK129.out 1).trans rfl, (blk_cell BK129.out 2).trans rfl, (blk_cell BK129.out 3).trans rfl, (blk_cell BK130.out 0).trans rfl, (blk_cell BK130.out 1).trans rfl, (blk_cell BK130.out 2).trans rfl, (blk_cell BK130.out 3).trans rfl⟩ (fun hHeld => ?_)
            clear hK K
            refine norm_ (a' := ?_) ?_ ?_
            rotate_left
            · show Act.put _ (some 46) _ = _
              simp only [Act.put, List.setIfInBounds_toArray, List.set_cons_zero, List.set_cons_succ, i64_w, i32_w]
              rfl
            refine pure_ (i := 12) (N := some 47) (v := ?_) (a' := ?_) #[true, true, true, true, true, true, true, true, true, true, true, true, true, false, false, false, false, false, false, false, false, false, false, false, false, false, false, false, false, false, false, false, false, false, false, false, false, false, false, false, false, false, false, false, false] rfl rfl (any_of HT_.out (by kernel_rfl)) (fun _ _ _ h => h) (Or.inl ⟨by rfl, ?_⟩) ?_ ?_
            rotate_left
            · intro w'
              go_simp
              with_reducible rfl
            rotate_left
            · simp only [Act.put, List.setIfInBounds_toArray, List.set_cons_zero, List.set_cons_succ, i64_w, i32_w]
              rfl
            refine pure_ (i := 13) (N := some 48) (v := ?_) (a' := ?_) #[true, true, true, true, true, true, true, true, true, true, true, true, true, true, false, false, false, false, false, false, false, false, false, false, false, false, false, false, false, false, false, false, false, false, false, false, false, false, false, false, false, false, false, false, false] rfl rfl (any_of HT_.out (by kernel_rfl)) (fun _ _ _ h => h) (Or.inl ⟨by rfl, ?_⟩) ?_ ?_
            rotate_left
            · intro w'
              go_simp
              with_reducible rfl
            rotate_left
            · simp only [Act.put, List.setIfInBounds_toArray, List.set_cons_zero, List.set_cons_succ, i64_w, i32_w]
              rfl
            refine pure_ (i := 14) (N := some 49) (v := ?_) (a' := ?_) #[true, true, true, true, true, true, true, true, true, true, true, true, true, true, true, false, false, false, false, false, false, false, false, false, false, false, false, false, false, false, false, false, false, false, false, false, false, false, false, false, false, false, false, false, false] rfl rfl (any_of HT_.out (by kernel_rfl)) (fun _ _ _ h => h) (Or.inl ⟨by rfl, ?_⟩) ?_ ?_
            rotate_left
            · intro w'
              go_simp
              with_reducible rfl
            rotate_left
            · simp only [Act.put, List.setIfInBounds_toArray, List.set_cons_zero, List.set_cons_succ, i64_w, i32_w]
              rfl
            refine pure_ (i := 16) (N := some 51) (v := ?_) (a' := ?_) #[true, true, true, true, true, true, true, true, true, true, true, true, true, true, true, false, true, false, false, false, false, false, false, false, false, false, false, false, false, false, false, false, false, false, false, false, false, false, false, false, false, false, false, false, false] rfl rfl (any_of HT_.out (by kernel_rfl)) (fun _ _ _ h => h) (Or.inl ⟨by rfl, ?_⟩) ?_ ?_
            rotate_left
            · intro w'
              go_simp
              with_reducible rfl
            rotate_left
            · simp only [Act.put, List.setIfInBounds_toArray, List.set_cons_zero, List.set_cons_succ, i64_w, i32_w]
              rfl
            refine take_ (i := 15) (N := some 50) (v := ?_) (a' := ?_) #[true, true, true, true, true, true, true, true, true, true, true, true, true, true, true, true, true, false, false, false, false, false, false, false, false, false, false, false, false, false, false, false, false, false, false, false, false, false, false, false, false, false, false, false, false] rfl rfl (take_ofW HT_.out HW_.out (by kernel_rfl)) (fun _ _ _ h => h) (Or.inl ⟨by rfl, ?_⟩) hHeld ?_ ?_
            rotate_left
            · rintro w' ⟨s0, s1, s2, s3, s4, s5, s6, s7, s8, s9, s10, s11, s12, s13, s14, s15, s16, s17, s18, s19, s20, s21, s22⟩
              go_simp
              with_reducible rfl
            rotate_left
            · simp only [Act.put, List.setIfInBounds_toArray, List.set_cons_zero, List.set_cons_succ, i64_w, i32_w]
              rfl
            refine take_ (i := 17) (N := some 52) (v := ?_) (a' := ?_) #[true, true, true, true, true, true, true, true, true, true, true, true, true, true, true, true, true, true, false, false, false, false, false, false, false, false, false, false, false, false, false, false, false, false, false, false, false, false, false, false, false, false, false, false, false] rfl rfl (take_ofW HT_.out HW_.out (by kernel_rfl)) (fun _ _ _ h => h) (Or.inl ⟨by rfl, ?_⟩) hHeld ?_ ?_
            rotate_left
            · rintro w' ⟨s0, s1, s2, s3, s4, s5, s6, s7, s8, s9, s10, s11, s12, s13, s14, s15, s16, s17, s18, s19, s20, s21, s22⟩
              go_simp
              with_reducible rfl
            rotate_left
            · simp only [Act.put, List.setIfInBounds_toArray, List.set_cons_zero, List.set_cons_succ, i64_w, i32_w]
              rfl
            refine pure_ (i := 18) (N := some 53) (v := ?_) (a' := ?_) #[true, true, true, true, true, true, true, true, true, true, true, true, true, true, true, true, true, true, true, false, false, false, false, false, false, false, false, false, false, false, false, false, false, false, false, false, false, false, false, false, false, false, false, false, false] rfl rfl (any_of HT_.out (by kernel_rfl)) (fun _ _ _ h => h) (Or.inl ⟨by rfl, ?_⟩) ?_ ?_
            rotate_left
            · intro w'
              go_simp
              with_reducible rfl
            rotate_left
            · simp only [Act.put, List.setIfInBounds_toArray, List.set_cons_zero, List.set_cons_succ, i64_w, i32_w]
              rfl
            refine pure_ (i := 19) (N := some 54) (v := ?_) (a' := ?_) #[true, true, true, true, true, true, true, true, true, true, true, true, true, true, true, true, true, true, true, true, false, false, false, false, false, false, false, false, false, false, false, false, false, false, false, false, false, false, false, false, false, false, false, false, false] rfl rfl (any_of HT_.out (by kernel_rfl)) (fun _ _ _ h => h) (Or.inl ⟨by rfl, ?_⟩) ?_ ?_
            rotate_left
            · intro w'
              go_simp
              with_reducible rfl
            rotate_left
            · simp only [Act.put, List.setIfInBounds_toArray, List.set_cons_zero, List.set_cons_succ, i64_w, i32_w]
              rfl
            refine pure_ (i := 20) (N := some 55) (v := ?_) (a' := ?_) #[true, true, true, true, true, true, true, true, true, true, true, true, true, true, true, true, true, true, true, true, true, false, false, false, false, false, false, false, false, false, false, false, false, false, false, false, false, false, false, false, false, false, false, false, false] rfl rfl (any_of HT_.out (by kernel_rfl)) (fun _ _ _ h => h) (Or.inl ⟨by rfl, ?_⟩) ?_ ?_
            rotate_left
            · intro w'
              go_simp
              with_reducible rfl
            rotate_left
            · simp only [Act.put, List.setIfInBounds_toArray, List.set_cons_zero, List.set_cons_succ, i64_w, i32_w]
              rfl
            refine pure_ (i := 21) (N := some 56) (v := ?_) (a' := ?_) #[true, true, true, true, true, true, true, true, true, true, true, true, true, true, true, true, true, true, true, true, true, true, false, false, false, false, false, false, false, false, false, false, false, false, false, false, false, false, false, false, false, false, false, false, false] rfl rfl (any_of HT_.out (by kernel_rfl)) (fun _ _ _ h => h) (Or.inl ⟨by rfl, ?_⟩) ?_ ?_
            rotate_left
            · intro w'
              go_simp
              with_reducible rfl
            rotate_left
            · simp only [Act.put, List.setIfInBounds_toArray, List.set_cons_zero, List.set_cons_succ, i64_w, i32_w]
              rfl
            refine pure_ (i := 23) (N := some 58) (v := ?_) (a' := ?_) #[true, true, true, true, true, true, true, true, true, true, true, true, true, true, true, true, true, true, true, true, true, true, false, true, false, false, false, false, false, false, false, false, false, false, false, false, false, false, false, false, false, false, false, false, false] rfl rfl (any_of HT_.out (by kernel_rfl)) (fun _ _ _ h => h) (Or.inl ⟨by rfl, ?_⟩) ?_ ?_
            rotate_left
            · intro w'
              go_simp
              with_reducible rfl
            rotate_left
            · simp only [Act.put, List.setIfInBounds_toArray, List.set_cons_zero, List.set_cons_succ, i64_w, i32_w]
              rfl
            refine take_ (i := 22) (N := some 57) (v := ?_) (a' := ?_) #[true, true, true, true, true, true, true, true, true, true, true, true, true, true, true, true, true, true, true, true, true, true, true, true, false, false, false, false, false, false, false, false, false, false, false, false, false, false, false, false, false, false, false, false, false] rfl rfl (take_ofW HT_.out HW_.out (by kernel_rfl)) (fun _ _ _ h => h) (Or.inl ⟨by rfl, ?_⟩) hHeld ?_ ?_
            rotate_left
            · rintro w' ⟨s0, s1, s2, s3, s4, s5, s6, s7, s8, s9, s10, s11, s12, s13, s14, s15, s16, s17, s18, s19, s20, s21, s22⟩
              go_simp
              with_reducible rfl
            rotate_left
            · simp only [Act.put, List.setIfInBounds_toArray, List.set_cons_zero, List.set_cons_succ, i64_w, i32_w]
              rfl
            refine take_ (i := 24) (N := some 59) (v := ?_) (a' := ?_) #[true, true, true, true, true, true, true, true, true, true, true, true, true, true, true, true, true, true, true, true, true, true, true, true, true, false, false, false, false, false, false, false, false, false, false, false, false, false, false, false, false, false, false, false, false] rfl rfl (take_ofW HT_.out HW_.out (by kernel_rfl)) (fun _ _ _ h => h) (Or.inl ⟨by rfl, ?_⟩) hHeld ?_ ?_
            rotate_left
            · rintro w' ⟨s0, s1, s2, s3, s4, s5, s6, s7, s8, s9, s10, s11, s12, s13, s14, s15, s16, s17, s18, s19, s20, s21, s22⟩
              go_simp
              with_reducible rfl
            rotate_left
            · simp only [Act.put, List.setIfInBounds_toArray, List.set_cons_zero, List.set_cons_succ, i64_w, i32_w]
              rfl
            refine pure_ (i := 25) (N := some 60) (v := ?_) (a' := ?_) #[true, true, true, true, true, true, true, true, true, true, true, true, true, true, true, true, true, true, true, true, true, true, true, true, true, true, false, false, false, false, false, false, false, false, false, false, false, false, false, false, false, false, false, false, false] rfl rfl (any_of HT_.out (by kernel_rfl)) (fun _ _ _ h => h) (Or.inl ⟨by rfl, ?_⟩) ?_ ?_
            rotate_left
            · intro w'
              go_simp
              with_reducible rfl
            rotate_left
            · simp only [Act.put, List.setIfInBounds_toArray, List.set_cons_zero, List.set_cons_succ, i64_w, i32_w]
              rfl
            refine pure_ (i := 26) (N := some 61) (v := ?_) (a' := ?_) #[true, true, true, true, true, true, true, true, true, true, true, true, true, true, true, true, true, true, true, true, true, true, true, true, true, true, true, false, false, false, false, false, false, false, false, false, false, false, false, false, false, false, false, false, false] rfl rfl (any_of HT_.out (by kernel_rfl)) (fun _ _ _ h => h) (Or.inl ⟨by rfl, ?_⟩) ?_ ?_
            rotate_left
            · intro w'
              go_simp
              with_reducible rfl
            rotate_left
            · simp only [Act.put, List.setIfInBounds_toArray, List.set_cons_zero, List.set_cons_succ, i64_w, i32_w]
              rfl
            refine pure_ (i := 27) (N := some 62) (v := ?_) (a' := ?_) #[true, true, true, true, true, true, true, true, true, true, true, true, true, true, true, true, true, true, true, true, true, true, true, true, true, true, true, true, false, false, false, false, false, false, false, false, false, false, false, false, false, false, false, false, false] rfl rfl (any_of HT_.out (by kernel_rfl)) (fun _ _ _ h => h) (Or.inl ⟨by rfl, ?_⟩) ?_ ?_
            rotate_left
            · intro w'
              go_simp
              with_reducible rfl
            rotate_left
            · simp only [Act.put, List.setIfInBounds_toArray, List.set_cons_zero, List.set_cons_succ, i64_w, i32_w]
              rfl
            refine pure_ (i := 28) (N := some 63) (v := ?_) (a' := ?_) #[true, true, true, true, true, true, true, true, true, true, true, true, true, true, true, true, true, true, true, true, true, true, true, true, true, true, true, true, true, false, false, false, false, false, false, false, false, false, false, false, false, false, false, false, false] rfl rfl (any_of HT_.out (by kernel_rfl)) (fun _ _ _ h => h) (Or.inl ⟨by rfl, ?_⟩) ?_ ?_
            rotate_left
            · intro w'
              go_simp
              with_reducible rfl
            rotate_left
            · simp only [Act.put, List.setIfInBounds_toArray, List.set_cons_zero, List.set_cons_succ, i64_w, i32_w]
              rfl
            refine pure_ (i := 30) (N := some 65) (v := ?_) (a' := ?_) #[true, true, true, true, true, true, true, true, true, true, true, true, true, true, true, true, true, true, true, true, true, true, true, true, true, true, true, true, true, false, true, false, false, false, false, false, false, false, false, false, false, false, false, false, false] rfl rfl (any_of HT_.out (by kernel_rfl)) (fun _ _ _ h => h) (Or.inl ⟨by rfl, ?_⟩) ?_ ?_
            rotate_left
            · intro w'
              go_simp
              with_reducible rfl
            rotate_left
            · simp only [Act.put, List.setIfInBounds_toArray, List.set_cons_zero, List.set_cons_succ, i64_w, i32_w]
              rfl
            refine take_ (i := 29) (N := some 64) (v := ?_) (a' := ?_) #[true, true, true, true, true, true, true, true, true, true, true, true, true, true, true, true, true, true, true, true, true, true, true, true, true, true, true, true, true, true, true, false, false, false, false, false, false, false, false, false, false, false, false, false, false] rfl rfl (take_ofW HT_.out HW_.out (by kernel_rfl)) (fun _ _ _ h => h) (Or.inl ⟨by rfl, ?_⟩) hHeld ?_ ?_
            rotate_left
            · rintro w' ⟨s0, s1, s2, s3, s4, s5, s6, s7, s8, s9, s10, s11, s12, s13, s14, s15, s16, s17, s18, s19, s20, s21, s22⟩
              go_simp
              with_reducible rfl
            rotate_left
            · simp only [Act.put, List.setIfInBounds_toArray, List.set_cons_zero, List.set_cons_succ, i64_w, i32_w]
              rfl
            refine take_ (i := 31) (N := some 66) (v := ?_) (a' := ?_) #[true, true, true, true, true, true, true, true, true, true, true, true, true, true, true, true, true, true, true, true, true, true, true, true, true, true, true, true, true, true, true, true, false, false, false, false, false, false, false, false, false, false, false, false, false] rfl rfl (take_ofW HT_.out HW_.out (by kernel_rfl)) (fun _ _ _ h => h) (Or.inl ⟨by rfl, ?_⟩) hHeld ?_ ?_
            rotate_left
            · rintro w' ⟨s0, s1, s2, s3, s4, s5, s6, s7, s8, s9, s10, s11, s12, s13, s14, s15, s16, s17, s18, s19, s20, s21, s22⟩
              go_simp
              with_reducible rfl
            rotate_left
            · simp only [Act.put, List.setIfInBounds_toArray, List.set_cons_zero, List.set_cons_succ, i64_w, i32_w]
              rfl
            refine pure_ (i := 32) (N := some 67) (v := ?_) (a' := ?_) #[true, true, true, true, true, true, true, true, true, true, true, true, true, true, true, true, true, true, true, true, true, true, true, true, true, true, true, true, true, true, true, true, true, false, false, false, false, false, false, false, false, false, false, false, false] rfl rfl (any_of HT_.out (by kernel_rfl)) (fun _ _ _ h => h) (Or.inl ⟨by rfl, ?_⟩) ?_ ?_
            rotate_left
            · intro w'
              go_simp
              with_reducible rfl
            rotate_left
            · simp only [Act.put, List.setIfInBounds_toArray, List.set_cons_zero, List.set_cons_succ, i64_w, i32_w]
              rfl
            refine pure_ (i := 33) (N := some 68) (v := ?_) (a' := ?_) #[true, true, true, true, true, true, true, true, true, true, true, true, true, true, true, true, true, true, true, true, true, true, true, true, true, true, true, true, true, true, true, true, true, true, false, false, false, false, false, false, false, false, false, false, false] rfl rfl (any_of HT_.out (by kernel_rfl)) (fun _ _ _ h => h) (Or.inl ⟨by rfl, ?_⟩) ?_ ?_
            rotate_left
            · intro w'
              go_simp
              with_reducible rfl
            rotate_left
            · simp only [Act.put, List.setIfInBounds_toArray, List.set_cons_zero, List.set_cons_succ, i64_w, i32_w]
              rfl
            refine pure_ (i := 34) (N := some 69) (v := ?_) (a' := ?_) #[true, true, true, true, true, true, true, true, true, true, true, true, true, true, true, true, true, true, true, true, true, true, true, true, true, true, true, true, true, true, true, true, true, true, true, false, false, false, false, false, false, false, false, false, false] rfl rfl (any_of HT_.out (by kernel_rfl)) (fun _ _ _ h => h) (Or.inl ⟨by rfl, ?_⟩) ?_ ?_
            rotate_left
            · intro w'
              go_simp
              with_reducible rfl
            rotate_left
            · simp only [Act.put, List.setIfInBounds_toArray, List.set_cons_zero, List.set_cons_succ, i64_w, i32_w]
              rfl
            refine pure_ (i := 35) (N := some 70) (v := ?_) (a' := ?_) #[true, true, true, true, true, true, true, true, true, true, true, true, true, true, true, true, true, true, true, true, true, true, true, true, true, true, true, true, true, true, true, true, true, true, true, true, false, false, false, false, false, false, false, false, false] rfl rfl (any_of HT_.out (by kernel_rfl)) (fun _ _ _ h => h) (Or.inl ⟨by rfl, ?_⟩) ?_ ?_
            rotate_left
            · intro w'
              go_simp
              with_reducible rfl
            rotate_left
            · simp only [Act.put, List.setIfInBounds_toArray, List.set_cons_zero, List.set_cons_succ, i64_w, i32_w]
              rfl
            refine pure_ (i := 37) (N := some 72) (v := ?_) (a' := ?_) #[true, true, true, true, true, true, true, true, true, true, true, true, true, true, true, true, true, true, true, true, true, true, true, true, true, true, true, true, true, true, true, true, true, true, true, true, false, true, false, false, false, false, false, false, false] rfl rfl (any_of HT_.out (by kernel_rfl)) (fun _ _ _ h => h) (Or.inl ⟨by rfl, ?_⟩) ?_ ?_
            rotate_left
            · intro w'
              go_simp
              with_reducible rfl
            rotate_left
            · simp only [Act.put, List.setIfInBounds_toArray, List.set_cons_zero, List.set_cons_succ, i64_w, i32_w]
              rfl
            refine take_ (i := 36) (N := some 71) (v := ?_) (a' := ?_) #[true, true, true, true, true, true, true, true, true, true, true, true, true, true, true, true, true, true, true, true, true, true, true, true, true, true, true, true, true, true, true, true, true, true, true, true, true, true, false, false, false, false, false, false, false] rfl rfl (take_ofW HT_.out HW_.out (by kernel_rfl)) (fun _ _ _ h => h) (Or.inl ⟨by rfl, ?_⟩) hHeld ?_ ?_
            rotate_left
            · rintro w' ⟨s0, s1, s2, s3, s4, s5, s6, s7, s8, s9, s10, s11, s12, s13, s14, s15, s16, s17, s18, s19, s20, s21, s22⟩
              go_simp
              with_reducible rfl
            rotate_left
            · simp only [Act.put, List.setIfInBounds_toArray, List.set_cons_zero, List.set_cons_succ, i64_w, i32_w]
              rfl
            refine take_ (i := 38) (N := some 73) (v := ?_) (a' := ?_) #[true, true, true, true, true, true, true, true, true, true, true, true, true, true, true, true, true, true, true, true, true, true, true, true, true, true, true, true, true, true, true, true, true, true, true, true, true, true, true, false, false, false, false, false, false] rfl rfl (take_ofW HT_.out HW_.out (by kernel_rfl)) (fun _ _ _ h => h) (Or.inl ⟨by rfl, ?_⟩) hHeld ?_ ?_
            rotate_left
            · rintro w' ⟨s0, s1, s2, s3, s4, s5, s6, s7, s8, s9, s10, s11, s12, s13, s14, s15, s16, s17, s18, s19, s20, s21, s22⟩
              go_simp
              with_reducible rfl
            rotate_left
            · simp only [Act.put, List.setIfInBounds_toArray, List.set_cons_zero, List.set_cons_succ, i64_w, i32_w]
              rfl
            refine pure_ (i := 39) (N := some 74) (v := ?_) (a' := ?_) #[true, true, true, true, true, true, true, true, true, true, true, true, true, true, true, true, true, true, true, true, true, true, true, true, true, true, true, true, true, true, true, true, true, true, true, true, true, true, true, true, false, false, false, false, false] rfl rfl (any_of HT_.out (by kernel_rfl)) (fun _ _ _ h => h) (Or.inl ⟨by rfl, ?_⟩) ?_ ?_
            rotate_left
            · intro w'
              go_simp
              with_reducible rfl
            rotate_left
            · simp only [Act.put, List.setIfInBounds_toArray, List.set_cons_zero, List.set_cons_succ, i64_w, i32_w]
              rfl
            refine pure_ (i := 40) (N := some 75) (v := ?_) (a' := ?_) #[true, true, true, true, true, true, true, true, true, true, true, true, true, true, true, true, true, true, true, true, true, true, true, true, true, true, true, true, true, true, true, true, true, true, true, true, true, true, true, true, true, false, false, false, false] rfl rfl (any_of HT_.out (by kernel_rfl)) (fun _ _ _ h => h) (Or.inl ⟨by rfl, ?_⟩) ?_ ?_
            rotate_left
            · intro w'
              go_simp
              with_reducible rfl
            rotate_left
            · simp only [Act.put, List.setIfInBounds_toArray, List.set_cons_zero, List.set_cons_succ, i64_w, i32_w]
              rfl
            refine pure_ (i := 41) (N := some 76) (v := ?_) (a' := ?_) #[true, true, true, true, true, true, true, true, true, true, true, true, true, true, true, true, true, true, true, true, true, true, true, true, true, true, true, true, true, true, true, true, true, true, true, true, true, true, true, true, true, true, false, false, false] rfl rfl (any_of HT_.out (by kernel_rfl)) (fun _ _ _ h => h) (Or.inl ⟨by rfl, ?_⟩) ?_ ?_
            rotate_left
            · intro w'
              go_simp
              with_reducible rfl
            rotate_left
            · simp only [Act.put, List.setIfInBounds_toArray, List.set_cons_zero, List.set_cons_succ, i64_w, i32_w]
              rfl
            refine one_ (i := 42) (N := some 77) #[true, true, true, true, true, true, true, true, true, true, true, true, true, true, true, true, true, true, true, true, true, true, true, true, true, true, true, true, true, true, true, true, true, true, true, true, true, true, true, true, true, true, true, false, false] rfl rfl (one_of HT_.out (by kernel_rfl)) (by decide) (fun K hK => ?_)
            refine goes_ Try.func31 (by kernel_rfl) rfl #[] (by rfl) rfl rfl (by (try simp only [List.map_toArray, List.map_cons, List.map_nil]); first | done | rfl | (simp only [List.length_drop, List.length_take]; rfl)) ?_
            with_reducible refine (beguinagelaw22_awake.calls  t133 _ A15.out).mono ?_
            rintro e w43 ⟨rfl, hb⟩
            refine ⟨_, rfl, ?_⟩
            have n0_ := Aside0.mk (blk_below (blk_l BK118.out) hb)
            have n1_ := Aside0.mk (blk_below (blk_l BK119.out) hb)
            have n2_ := Aside0.mk (blk_below (blk_l BK120.out) hb)
            have n3_ := Aside0.mk (blk_below (blk_l BK129.out) hb)
            have n4_ := Aside0.mk (blk_below (blk_l BK130.out) hb)
            have n5_ := Aside0.mk (below_step (by repeat (first | (with_reducible first | exact HB.out | apply below_alloc | apply pw_below_drewN | apply below_drew1 | refine below_set ?_ GE118.out | refine below_set ?_ GE119.out | refine below_set ?_ GE120.out | refine below_set ?_ GE129.out | refine below_set ?_ GE130.out) | exact HB.out)) hb)
            clear BK118
            clear BK119
            clear BK120
            clear BK129
            clear BK130
            clear HB
            have BK118 := n0_
            have BK119 := n1_
            have BK120 := n2_
            have BK129 := n3_
            have BK130 := n4_
            have HB := n5_
            clear n0_ n1_ n2_ n3_ n4_ n5_
            (try clear hb)
            (try clear hb2)
            (try clear hk)
            (try clear hi)
            refine hK.out _ _ ⟨(blk_cell BK118.out 0).trans rfl, (blk_cell BK118.out 1).trans rfl, (blk_cell BK118.out 2).trans rfl, (blk_cell BK118.out 3).trans rfl, (blk_cell BK118.out 4).trans rfl, (blk_cell BK118.out 5).trans rfl, (blk_cell BK118.out 6).trans rfl, (blk_cell BK119.out 0).trans rfl, (blk_cell BK119.out 1).trans rfl, (blk_cell BK119.out 2).trans rfl, (blk_cell BK119.out 3).trans rfl, (blk_cell BK120.out 0).trans rfl, (blk_cell BK120.out 1).trans rfl, (blk_cell BK120.out 2).trans rfl, (blk_cell BK120.out 3).trans rfl, (blk_cell BK129.out 0).trans rfl, (blk_cell BK129.out 1).trans rfl, (blk_cell BK129.out 2).trans rfl, (blk_cell BK129.out 3).trans rfl, (blk_cell BK130.out 0).trans rfl, (blk_cell BK130.out 1).trans rfl, (blk_cell BK130.out 2).trans rfl, (blk_cell BK130.out 3).trans rfl⟩ (fun hHeld => ?_)
            clear hK K
            refine norm_ (a' := ?_) ?_ ?_
            rotate_left
            · show Act.put _ (some 77) _ = _
              simp only [Act.put, List.setIfInBounds_toArray, List.set_cons_zero, List.set_cons_succ, i64_w, i32_w]
              rfl
            refine pure_ (i := 43) (N := some 78) (v := ?_) (a' := ?_) #[true, true, true, true, true, true, true, true, true, true, true, true, true, true, true, true, true, true, true, true, true, true, true, true, true, true, true, true, true, true, true, true, true, true, true, true, true, true, true, true, true, true, true, true, false] rfl rfl (any_of HT_.out (by kernel_rfl)) (fun _ _ _ h => h) (Or.inl ⟨by rfl, ?_⟩) ?_ ?_
            rotate_left
            · intro w'
              go_simp
              with_reducible rfl
            rotate_left
            · simp only [Act.put, List.setIfInBounds_toArray, List.set_cons_zero, List.set_cons_succ, i64_w, i32_w]
              rfl
            refine pure_ (i := 44) (N := some 10) (v := ?_) (a' := ?_) #[true, true, true, true, true, true, true, true, true, true, true, true, true, true, true, true, true, true, true, true, true, true, true, true, true, true, true, true, true, true, true, true, true, true, true, true, true, true, true, true, true, true, true, true, true] rfl rfl (any_of HT_.out (by kernel_rfl)) (fun _ _ _ h => h) (Or.inl ⟨by rfl, ?_⟩) ?_ ?_
            rotate_left
            · intro w'
              go_simp
              with_reducible rfl
            rotate_left
            · simp only [Act.put, List.setIfInBounds_toArray, List.set_cons_zero, List.set_cons_succ, i64_w, i32_w]
              rfl
            refine done_ (done_of HT_.out (by kernel_rfl)) ?_
            try go_wp2
            go_ret
            exact ⟨by first | rfl | (simp [errW_none, errW_some] <;> rfl) | (simp [*, errW_none, errW_some] <;> rfl), by repeat (first | (with_reducible first | exact HB.out | apply below_alloc | apply pw_below_drewN | apply below_drew1 | refine below_set ?_ GE118.out | refine below_set ?_ GE119.out | refine below_set ?_ GE120.out | refine below_set ?_ GE129.out | refine below_set ?_ GE130.out) | exact HB.out)⟩
          · rw [if_neg c14] at H
            have c14b0 : (t124 == t128) = false := beq_eq_false_iff_ne.mpr c14
            have c14b1 : (t124 != t128) = true := bne_iff_ne.mpr c14
            obtain rfl := Option.some.inj H
            exact absurd hr_.out (by simp)
        · rw [if_neg c13] at H
          have c13b0 : (t123 == t127) = false := beq_eq_false_iff_ne.mpr c13
          have c13b1 : (t123 != t127) = true := bne_iff_ne.mpr c13
          obtain rfl := Option.some.inj H
          exact absurd hr_.out (by simp)
      · rw [if_neg c12] at H
        have c12b0 : (t122 == t126) = false := beq_eq_false_iff_ne.mpr c12
        have c12b1 : (t122 != t126) = true := bne_iff_ne.mpr c12
        obtain rfl := Option.some.inj H
        exact absurd hr_.out (by simp)
    · rw [if_neg c11] at H
      have c11b0 : (t121 == t125) = false := beq_eq_false_iff_ne.mpr c11
      have c11b1 : (t121 != t125) = true := bne_iff_ne.mpr c11
      obtain rfl := Option.some.inj H
      exact absurd hr_.out (by simp)
  · rw [if_neg c10] at H
    have c10b0 : (t131 == t132) = false := by simpa using c10
    (try (have c10b1 : decide (t131 = t132) = false := by simpa using c10))
    (try (have c10b2 : (t131 == t132) = false := by simpa using c10))
    (try (have c10b3 : ¬ (t131 = t132) := by simpa using c10))
    clear c10
    obtain rfl := Option.some.inj H
    exact absurd hr_.out (by simp)

end Go.Proofs.Ytmjkkkllmpagpaa.PQuota
