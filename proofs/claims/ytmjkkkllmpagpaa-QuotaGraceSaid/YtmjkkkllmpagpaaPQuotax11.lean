-- Written by wip/pr.py, a program of this session's own that drives the kit's printer: not a text of print.sh.
import Derived.Test.YtmjkkkllmpagpaaPQuotax0
import Derived.Test.YtmjkkkllmpagpaaPQuotax8
import Derived.Test.YtmjkkkllmpagpaaPQuotax10
import Derived.Test.YtmjkkkllmpagpaaQuotaGiven
import Derived.Test.YtmjkkkllmpagpaaLater
namespace Go.Proofs.Ytmjkkkllmpagpaa.PQuota
open Go.RowKit Go.Proofs.YtmjkkkllmpagpaaW.PrintWords Go.Proofs.YtmjkkkllmpagpaaW.PrintLast Go.Proofs.YtmjkkkllmpagpaaW.PrintMore
attribute [local go_sem] max2_int min2_int max_two min_two max_three min_three max_four min_four   -- for this text's walks alone
set_option linter.unusedVariables false
set_option linter.unusedSimpArgs false

/-! ### beguinagelaw22_QuotaGrace: function 11 -/
mutual
def beguinagelaw22_QuotaGrace.l0 : Nat → List Int → Int → Int → Int → Int → Int → Int → Int → Int → Int → Int → Int → Int → Int → Int → Int → Option (Bool)
  | 0, _, _, _, _, _, _, _, _, _, _, _, _, _, _, _, _ => none
  | k + 1, x3, x9, x12, x13, x14, x138000, x138001, x138002, x138003, x138004, x138005, x138006, x139000, x139001, x139002, x139003 => if x14 < (x3.length : Int) then (beguinagelaw22_QuotaGrace.j1 k x3 x9 x12 x13 x14 (decide (x14 < 100)) x138000 x138001 x138002 x138003 x138004 x138005 x138006 x139000 x139001 x139002 x139003) else (beguinagelaw22_QuotaGrace.j1 k x3 x9 x12 x13 x14 false x138000 x138001 x138002 x138003 x138004 x138005 x138006 x139000 x139001 x139002 x139003)
def beguinagelaw22_QuotaGrace.j1 : Nat → List Int → Int → Int → Int → Int → Bool → Int → Int → Int → Int → Int → Int → Int → Int → Int → Int → Int → Option (Bool)
  | 0, _, _, _, _, _, _, _, _, _, _, _, _, _, _, _, _, _ => none
  | k + 1, x3, x9, x12, x13, x14, x35, x138000, x138001, x138002, x138003, x138004, x138005, x138006, x139000, x139001, x139002, x139003 => if x35 = true then (if 0 ≤ x14 then (if x14 < (x3.length : Int) then ((beguinagelaw00_Place.f (rd x3 x14) 1048576).bind fun t141 => (if (wrap64 ((wrap64 (x139000 + (Int.tmod (wrap64 (Int.tdiv t141 4)) 9))) - 4)) < 0 then (beguinagelaw22_QuotaGrace.l0 k x3 x9 (wrap64 (x12 + (Int.tmod t141 4))) x13 (wrap64 (x14 + 1)) x138000 x138001 x138002 x138003 x138004 x138005 x138006 x139000 x139001 x139002 x139003) else (if (wrap64 ((wrap64 (x139000 + (Int.tmod (wrap64 (Int.tdiv t141 4)) 9))) - 4)) ≤ x139000 then (beguinagelaw22_QuotaGrace.j2 k x3 x9 (wrap64 (x12 + (Int.tmod t141 4))) x13 x14 (wrap64 ((wrap64 (x139000 + (Int.tmod (wrap64 (Int.tdiv t141 4)) 9))) - 4)) true x138000 x138001 x138002 x138003 x138004 x138005 x138006 x139000 x139001 x139002 x139003) else (if (wrap64 ((wrap64 (x139000 + (Int.tmod (wrap64 (Int.tdiv t141 4)) 9))) - 4)) ≤ x138002 then (beguinagelaw22_QuotaGrace.j2 k x3 x9 (wrap64 (x12 + (Int.tmod t141 4))) x13 x14 (wrap64 ((wrap64 (x139000 + (Int.tmod (wrap64 (Int.tdiv t141 4)) 9))) - 4)) true x138000 x138001 x138002 x138003 x138004 x138005 x138006 x139000 x139001 x139002 x139003) else (if (wrap64 ((wrap64 (x139000 + (Int.tmod (wrap64 (Int.tdiv t141 4)) 9))) - 4)) ≤ x9 then (if x138005 > 0 then (if x13 < 0 then (beguinagelaw22_QuotaGrace.j2 k x3 x9 (wrap64 (x12 + (Int.tmod t141 4))) x13 x14 (wrap64 ((wrap64 (x139000 + (Int.tmod (wrap64 (Int.tdiv t141 4)) 9))) - 4)) true x138000 x138001 x138002 x138003 x138004 x138005 x138006 x139000 x139001 x139002 x139003) else (beguinagelaw22_QuotaGrace.j2 k x3 x9 (wrap64 (x12 + (Int.tmod t141 4))) x13 x14 (wrap64 ((wrap64 (x139000 + (Int.tmod (wrap64 (Int.tdiv t141 4)) 9))) - 4)) (decide ((wrap64 ((wrap64 (x12 + (Int.tmod t141 4))) - x13)) < x138005)) x138000 x138001 x138002 x138003 x138004 x138005 x138006 x139000 x139001 x139002 x139003)) else (beguinagelaw22_QuotaGrace.j2 k x3 x9 (wrap64 (x12 + (Int.tmod t141 4))) x13 x14 (wrap64 ((wrap64 (x139000 + (Int.tmod (wrap64 (Int.tdiv t141 4)) 9))) - 4)) false x138000 x138001 x138002 x138003 x138004 x138005 x138006 x139000 x139001 x139002 x139003)) else (beguinagelaw22_QuotaGrace.j2 k x3 x9 (wrap64 (x12 + (Int.tmod t141 4))) x13 x14 (wrap64 ((wrap64 (x139000 + (Int.tmod (wrap64 (Int.tdiv t141 4)) 9))) - 4)) false x138000 x138001 x138002 x138003 x138004 x138005 x138006 x139000 x139001 x139002 x139003)))))) else (none)) else (none)) else ((beguinagelaw22_awake.f).bind fun t139 => (some t139))
def beguinagelaw22_QuotaGrace.j2 : Nat → List Int → Int → Int → Int → Int → Int → Bool → Int → Int → Int → Int → Int → Int → Int → Int → Int → Int → Int → Option (Bool)
  | 0, _, _, _, _, _, _, _, _, _, _, _, _, _, _, _, _, _, _ => none
  | k + 1, x3, x9, x12, x13, x14, x16, x17, x138000, x138001, x138002, x138003, x138004, x138005, x138006, x139000, x139001, x139002, x139003 => (quota_May.f x138000 x138001 x138002 x138003 x138004 x138005 x138006 x139000 x139001 x139002 x139003 x12 x16 1).bind fun t142 => (if (t142 != x17) = true then (some false) else (if x17 = true then ((quota_Next.f x138000 x138001 x138002 x138003 x138004 x138005 x138006 x139000 x139001 x139002 x139003 x12 x16 1).bind fun bt143 => (if x16 ≤ x138002 then (if bt143.1 = x16 then (if bt143.1 > x9 then (some false) else (if bt143.2.2.1 = 0 then (if bt143.2.2.2 = 0 then (if bt143.2.1 = 1 then (beguinagelaw22_QuotaGrace.l0 k x3 x9 x12 (-1) (wrap64 (x14 + 1)) x138000 x138001 x138002 x138003 x138004 x138005 x138006 bt143.1 bt143.2.1 bt143.2.2.1 bt143.2.2.2) else (some false)) else (some false)) else (some false))) else (some false)) else (if x13 < 0 then (if bt143.1 = x16 then (if bt143.1 > x9 then (some false) else (if bt143.2.2.1 = (wrap64 (x12 + 1)) then (if bt143.2.2.2 = 0 then (if bt143.2.1 = 1 then (beguinagelaw22_QuotaGrace.l0 k x3 x9 x12 x12 (wrap64 (x14 + 1)) x138000 x138001 x138002 x138003 x138004 x138005 x138006 bt143.1 bt143.2.1 bt143.2.2.1 bt143.2.2.2) else (some false)) else (some false)) else (some false))) else (some false)) else (if bt143.1 = x16 then (if bt143.1 > x9 then (some false) else (if bt143.2.2.1 = (wrap64 (x13 + 1)) then (if bt143.2.2.2 = 0 then (if bt143.2.1 = 1 then (beguinagelaw22_QuotaGrace.l0 k x3 x9 x12 x13 (wrap64 (x14 + 1)) x138000 x138001 x138002 x138003 x138004 x138005 x138006 bt143.1 bt143.2.1 bt143.2.2.1 bt143.2.2.2) else (some false)) else (some false)) else (some false))) else (some false))))) else (beguinagelaw22_QuotaGrace.l0 k x3 x9 x12 x13 (wrap64 (x14 + 1)) x138000 x138001 x138002 x138003 x138004 x138005 x138006 x139000 x139001 x139002 x139003)))
end
def beguinagelaw22_QuotaGrace.f (k : Nat) (a0 : Int) (a1 : Int) (a2 : Int) (l3 : List Int) : Option (Bool) := (beguinagelaw00_Place.f a0 50).bind fun t134 => ((beguinagelaw00_Place.f a1 (wrap64 (t134 + 1))).bind fun t135 => ((beguinagelaw00_Place.f a2 20).bind fun t136 => (beguinagelaw22_QuotaGrace.l0 k l3 t134 0 (-1) 0 0 t134 t135 9 9 t136 0 0 0 0 0)))
theorem beguinagelaw22_QuotaGrace.mono_l : ∀ k, (∀ y0 y1 y2 y3 y4 y5 y6 y7 y8 y9 y10 y11 y12 y13 y14 y15, LeO (beguinagelaw22_QuotaGrace.l0 k y0 y1 y2 y3 y4 y5 y6 y7 y8 y9 y10 y11 y12 y13 y14 y15) (beguinagelaw22_QuotaGrace.l0 (k + 1) y0 y1 y2 y3 y4 y5 y6 y7 y8 y9 y10 y11 y12 y13 y14 y15)) ∧ (∀ y0 y1 y2 y3 y4 y5 y6 y7 y8 y9 y10 y11 y12 y13 y14 y15 y16, LeO (beguinagelaw22_QuotaGrace.j1 k y0 y1 y2 y3 y4 y5 y6 y7 y8 y9 y10 y11 y12 y13 y14 y15 y16) (beguinagelaw22_QuotaGrace.j1 (k + 1) y0 y1 y2 y3 y4 y5 y6 y7 y8 y9 y10 y11 y12 y13 y14 y15 y16)) ∧ (∀ y0 y1 y2 y3 y4 y5 y6 y7 y8 y9 y10 y11 y12 y13 y14 y15 y16 y17, LeO (beguinagelaw22_QuotaGrace.j2 k y0 y1 y2 y3 y4 y5 y6 y7 y8 y9 y10 y11 y12 y13 y14 y15 y16 y17) (beguinagelaw22_QuotaGrace.j2 (k + 1) y0 y1 y2 y3 y4 y5 y6 y7 y8 y9 y10 y11 y12 y13 y14 y15 y16 y17))
  | 0 => ⟨fun _ _ _ _ _ _ _ _ _ _ _ _ _ _ _ _ r h => by simp [beguinagelaw22_QuotaGrace.l0] at h, fun _ _ _ _ _ _ _ _ _ _ _ _ _ _ _ _ _ r h => by simp [beguinagelaw22_QuotaGrace.j1] at h, fun _ _ _ _ _ _ _ _ _ _ _ _ _ _ _ _ _ _ r h => by simp [beguinagelaw22_QuotaGrace.j2] at h⟩
  | k + 1 => by
    obtain ⟨ih0, ih1, ih2⟩ := beguinagelaw22_QuotaGrace.mono_l k
    refine ⟨?_, ?_, ?_⟩
    · intro y0 y1 y2 y3 y4 y5 y6 y7 y8 y9 y10 y11 y12 y13 y14 y15
      unfold beguinagelaw22_QuotaGrace.l0
      repeat' first
      | (with_reducible exact ih0 _ _ _ _ _ _ _ _ _ _ _ _ _ _ _ _)
      | (with_reducible exact ih1 _ _ _ _ _ _ _ _ _ _ _ _ _ _ _ _ _)
      | (with_reducible exact ih2 _ _ _ _ _ _ _ _ _ _ _ _ _ _ _ _ _ _)
      | (with_reducible exact LeO.refl _)
      | (with_reducible exact LeO.none _)
      | (with_reducible refine LeO.ite ?_ ?_)
      | (with_reducible refine LeO.bind ?_ (fun _ => ?_))
      | exact ih0 _ _ _ _ _ _ _ _ _ _ _ _ _ _ _ _
      | exact ih1 _ _ _ _ _ _ _ _ _ _ _ _ _ _ _ _ _
      | exact ih2 _ _ _ _ _ _ _ _ _ _ _ _ _ _ _ _ _ _
      | exact LeO.none _
      | refine LeO.ite ?_ ?_
      | refine LeO.bind ?_ (fun _ => ?_)
    · intro y0 y1 y2 y3 y4 y5 y6 y7 y8 y9 y10 y11 y12 y13 y14 y15 y16
      unfold beguinagelaw22_QuotaGrace.j1
      repeat' first
      | (with_reducible exact ih0 _ _ _ _ _ _ _ _ _ _ _ _ _ _ _ _)
      | (with_reducible exact ih1 _ _ _ _ _ _ _ _ _ _ _ _ _ _ _ _ _)
      | (with_reducible exact ih2 _ _ _ _ _ _ _ _ _ _ _ _ _ _ _ _ _ _)
      | (with_reducible exact LeO.refl _)
      | (with_reducible exact LeO.none _)
      | (with_reducible refine LeO.ite ?_ ?_)
      | (with_reducible refine LeO.bind ?_ (fun _ => ?_))
      | exact ih0 _ _ _ _ _ _ _ _ _ _ _ _ _ _ _ _
      | exact ih1 _ _ _ _ _ _ _ _ _ _ _ _ _ _ _ _ _
      | exact ih2 _ _ _ _ _ _ _ _ _ _ _ _ _ _ _ _ _ _
      | exact LeO.none _
      | refine LeO.ite ?_ ?_
      | refine LeO.bind ?_ (fun _ => ?_)
    · intro y0 y1 y2 y3 y4 y5 y6 y7 y8 y9 y10 y11 y12 y13 y14 y15 y16 y17
      unfold beguinagelaw22_QuotaGrace.j2
      repeat' first
      | (with_reducible exact ih0 _ _ _ _ _ _ _ _ _ _ _ _ _ _ _ _)
      | (with_reducible exact ih1 _ _ _ _ _ _ _ _ _ _ _ _ _ _ _ _ _)
      | (with_reducible exact ih2 _ _ _ _ _ _ _ _ _ _ _ _ _ _ _ _ _ _)
      | (with_reducible exact LeO.refl _)
      | (with_reducible exact LeO.none _)
      | (with_reducible refine LeO.ite ?_ ?_)
      | (with_reducible refine LeO.bind ?_ (fun _ => ?_))
      | exact ih0 _ _ _ _ _ _ _ _ _ _ _ _ _ _ _ _
      | exact ih1 _ _ _ _ _ _ _ _ _ _ _ _ _ _ _ _ _
      | exact ih2 _ _ _ _ _ _ _ _ _ _ _ _ _ _ _ _ _ _
      | exact LeO.none _
      | refine LeO.ite ?_ ?_
      | refine LeO.bind ?_ (fun _ => ?_)
theorem beguinagelaw22_QuotaGrace.mono : ∀ a0 a1 a2 a3 k, LeO (beguinagelaw22_QuotaGrace.f k a0 a1 a2 a3) (beguinagelaw22_QuotaGrace.f (k + 1) a0 a1 a2 a3) := by
  intro a0 a1 a2 a3 k
  obtain ⟨ih0, ih1, ih2⟩ := beguinagelaw22_QuotaGrace.mono_l k
  unfold beguinagelaw22_QuotaGrace.f
  repeat' first
      | (with_reducible exact ih0 _ _ _ _ _ _ _ _ _ _ _ _ _ _ _ _)
      | (with_reducible exact ih1 _ _ _ _ _ _ _ _ _ _ _ _ _ _ _ _ _)
      | (with_reducible exact ih2 _ _ _ _ _ _ _ _ _ _ _ _ _ _ _ _ _ _)
      | (with_reducible exact LeO.refl _)
      | (with_reducible exact LeO.none _)
      | (with_reducible refine LeO.ite ?_ ?_)
      | (with_reducible refine LeO.bind ?_ (fun _ => ?_))
      | exact ih0 _ _ _ _ _ _ _ _ _ _ _ _ _ _ _ _
      | exact ih1 _ _ _ _ _ _ _ _ _ _ _ _ _ _ _ _ _
      | exact ih2 _ _ _ _ _ _ _ _ _ _ _ _ _ _ _ _ _ _
      | exact LeO.none _
      | refine LeO.ite ?_ ?_
      | refine LeO.bind ?_ (fun _ => ?_)
set_option maxHeartbeats 8000000 in
set_option maxRecDepth 100000 in
theorem beguinagelaw22_QuotaGrace.calls (k : Nat) (a0 : Int) (a1 : Int) (a2 : Int) (A3 : Option Addr) (c3 : Nat) (l3 : List Int) (r : Bool) (w : World) (hr3 : Kd.C (Kd.int .i64) w A3 l3.length l3) (hc3 : l3.length ≤ c3) (h : beguinagelaw22_QuotaGrace.f k a0 a1 a2 l3 = some r) (hr_ : Aside0 (r = true)) :
    Calls Try.prog 11 #[.int .i64 a0, .int .i64 a1, .int .i64 a2, .slice A3 l3.length c3] w fun e w' => e = .returned (.bool r) ∧ Below w.heap.size w w' := by
  have hu29 := Try.underlying29
  have hu53 := Try.underlying53
  have HR3 := Aside0.mk hr3
  have HC3 := Aside0.mk hc3
  clear hr3 hc3
  have HB := Aside0.mk (Below.refl w.heap.size w)
  have H : ((beguinagelaw00_Place.f a0 50).bind fun t134 => ((beguinagelaw00_Place.f a1 (wrap64 (t134 + 1))).bind fun t135 => ((beguinagelaw00_Place.f a2 20).bind fun t136 => (beguinagelaw22_QuotaGrace.l0 k l3 t134 0 (-1) 0 0 t134 t135 9 9 t136 0 0 0 0 0)))) = some r := h
  clear h
  replace H := Option.bind_eq_some_iff.mp H
  obtain ⟨t134, A50, H⟩ := H
  replace H : ((beguinagelaw00_Place.f a1 (wrap64 (t134 + 1))).bind fun t135 => ((beguinagelaw00_Place.f a2 20).bind fun t136 => (beguinagelaw22_QuotaGrace.l0 k l3 t134 0 (-1) 0 0 t134 t135 9 9 t136 0 0 0 0 0))) = some r := H
  have A5 := Aside0.mk A50
  clear A50
  replace H := Option.bind_eq_some_iff.mp H
  obtain ⟨t135, A60, H⟩ := H
  replace H : ((beguinagelaw00_Place.f a2 20).bind fun t136 => (beguinagelaw22_QuotaGrace.l0 k l3 t134 0 (-1) 0 0 t134 t135 9 9 t136 0 0 0 0 0)) = some r := H
  have A6 := Aside0.mk A60
  clear A60
  replace H := Option.bind_eq_some_iff.mp H
  obtain ⟨t136, A70, H⟩ := H
  replace H : (beguinagelaw22_QuotaGrace.l0 k l3 t134 0 (-1) 0 0 t134 t135 9 9 t136 0 0 0 0 0) = some r := H
  have A7 := Aside0.mk A70
  clear A70
  have H' := Aside0.mk H
  clear H
  go_enter Try.func11, Try.ntmps11
  go_wp2_with (first | ((with_reducible refine gate_callee (f := 14) rfl ?_); refine goesL_ (some 19) rfl rfl Try.func14 (by kernel_rfl) rfl #[.int .i64 a0, .int .i64 50] rfl (by (try simp only [List.map_toArray, List.map_cons, List.map_nil]); first | done | rfl | (simp only [List.length_drop, List.length_take]; rfl)) ?_; (with_reducible refine (beguinagelaw00_Place.calls a0 50 t134 _ A5.out).mono ?_); rintro e w' ⟨rfl, ⟨nd, rfl⟩⟩; refine ⟨_, rfl, ?_⟩) | ((with_reducible refine gate_callee (f := 14) rfl ?_); refine goesL_ (some 24) rfl rfl Try.func14 (by kernel_rfl) rfl #[.int .i64 a1, .int .i64 (wrap64 (t134 + 1))] rfl (by (try simp only [List.map_toArray, List.map_cons, List.map_nil]); first | done | rfl | (simp only [List.length_drop, List.length_take]; rfl)) ?_; (with_reducible refine (beguinagelaw00_Place.calls a1 (wrap64 (t134 + 1)) t135 _ A6.out).mono ?_); rintro e w' ⟨rfl, ⟨nd, rfl⟩⟩; refine ⟨_, rfl, ?_⟩) | ((with_reducible refine gate_callee (f := 14) rfl ?_); refine goesL_ (some 26) rfl rfl Try.func14 (by kernel_rfl) rfl #[.int .i64 a2, .int .i64 20] rfl (by (try simp only [List.map_toArray, List.map_cons, List.map_nil]); first | done | rfl | (simp only [List.length_drop, List.length_take]; rfl)) ?_; (with_reducible refine (beguinagelaw00_Place.calls a2 20 t136 _ A7.out).mono ?_); rintro e w' ⟨rfl, ⟨nd, rfl⟩⟩; refine ⟨_, rfl, ?_⟩) | ((with_reducible refine gate_dst (N := 10) rfl ?_); refine box_event ?hg (N := 10) ?hd (cs := #[.int .i64 0, .int .i64 0, .int .i64 0, .int .i64 0, .int .i64 0, .int .i64 0, .int .i64 0]) (t := 29) ?hr ?_; (case hd => rfl); (case hg => rfl); (case hr => first | (go_simp; done) | (go_simp; rfl)); intro gb137 hg w8 hbox hb; have n0_ := Aside0.mk (below_step (by repeat (first | (with_reducible first | exact HB.out | apply below_alloc | apply pw_below_drewN | apply below_drew1) | exact HB.out)) hb); have n1_ := Aside0.mk (hbox); have n2_ := Aside0.mk ((by rw [hg]; exact (below_size (by repeat (first | (with_reducible first | exact HB.out | apply below_alloc | apply pw_below_drewN | apply below_drew1) | exact HB.out))) : w.heap.size ≤ gb137)); have n3_ := Aside0.mk ((by rw [hg]; exact (below_size (by repeat (first | (with_reducible first | exact HB.out | apply below_alloc | apply pw_below_drewN | apply below_drew1) | exact HB.out))) : w.heap.size ≤ gb137)); clear HB; have HB := n0_; have BK137 := n1_; have GW137 := n2_; have GE137 := n3_; clear n0_ n1_ n2_ n3_; clear hb hbox hg; have hcz9_0 : w8.cell? ⟨gb137, 0, none⟩ = some (.int .i64 0) := (blk_cell BK137.out 0).trans rfl; have hcz9_1 : w8.cell? ⟨gb137, 1, none⟩ = some (.int .i64 0) := (blk_cell BK137.out 1).trans rfl; have hcz9_2 : w8.cell? ⟨gb137, 2, none⟩ = some (.int .i64 0) := (blk_cell BK137.out 2).trans rfl; have hcz9_3 : w8.cell? ⟨gb137, 3, none⟩ = some (.int .i64 0) := (blk_cell BK137.out 3).trans rfl; have hcz9_4 : w8.cell? ⟨gb137, 4, none⟩ = some (.int .i64 0) := (blk_cell BK137.out 4).trans rfl; have hcz9_5 : w8.cell? ⟨gb137, 5, none⟩ = some (.int .i64 0) := (blk_cell BK137.out 5).trans rfl; have hcz9_6 : w8.cell? ⟨gb137, 6, none⟩ = some (.int .i64 0) := (blk_cell BK137.out 6).trans rfl; have hfz9_0 := blk_frozen BK137.out 0; have hfz9_1 := blk_frozen BK137.out 1; have hfz9_2 := blk_frozen BK137.out 2; have hfz9_3 := blk_frozen BK137.out 3; have hfz9_4 := blk_frozen BK137.out 4; have hfz9_5 := blk_frozen BK137.out 5; have hfz9_6 := blk_frozen BK137.out 6) | ((with_reducible refine gate_dst (N := 11) rfl ?_); refine box_event ?hg (N := 11) ?hd (cs := #[.int .i64 0, .int .i64 0, .int .i64 0, .int .i64 0]) (t := 53) ?hr ?_; (case hd => rfl); (case hg => rfl); (case hr => first | (go_simp; done) | (go_simp; rfl)); intro gb138 hg w10 hbox hb; have n0_ := Aside0.mk (blk_below (g := gb137) (o := .cells #[.int .i64 0, .int .i64 t134, .int .i64 t135, .int .i64 9, .int .i64 9, .int .i64 t136, .int .i64 0] 29 (0, 0)) (by (with_reducible repeat (first | refine blk_drewN ?_ _ | refine blk_drew ?_ | refine blk_alloc ?_ _)); refine blk_put (cs := #[.int .i64 0, .int .i64 t134, .int .i64 t135, .int .i64 9, .int .i64 9, .int .i64 t136, .int .i64 0]) ?_ 6 _ rfl; (with_reducible repeat (first | refine blk_drewN ?_ _ | refine blk_drew ?_ | refine blk_alloc ?_ _)); refine blk_put (cs := #[.int .i64 0, .int .i64 t134, .int .i64 t135, .int .i64 9, .int .i64 9, .int .i64 0, .int .i64 0]) ?_ 5 _ rfl; (with_reducible repeat (first | refine blk_drewN ?_ _ | refine blk_drew ?_ | refine blk_alloc ?_ _)); refine blk_put (cs := #[.int .i64 0, .int .i64 t134, .int .i64 t135, .int .i64 9, .int .i64 0, .int .i64 0, .int .i64 0]) ?_ 4 _ rfl; (with_reducible repeat (first | refine blk_drewN ?_ _ | refine blk_drew ?_ | refine blk_alloc ?_ _)); refine blk_put (cs := #[.int .i64 0, .int .i64 t134, .int .i64 t135, .int .i64 0, .int .i64 0, .int .i64 0, .int .i64 0]) ?_ 3 _ rfl; (with_reducible repeat (first | refine blk_drewN ?_ _ | refine blk_drew ?_ | refine blk_alloc ?_ _)); refine blk_put (cs := #[.int .i64 0, .int .i64 t134, .int .i64 0, .int .i64 0, .int .i64 0, .int .i64 0, .int .i64 0]) ?_ 2 _ rfl; (with_reducible repeat (first | refine blk_drewN ?_ _ | refine blk_drew ?_ | refine blk_alloc ?_ _)); refine blk_put (cs := #[.int .i64 0, .int .i64 0, .int .i64 0, .int .i64 0, .int .i64 0, .int .i64 0, .int .i64 0]) ?_ 1 _ rfl; (with_reducible repeat (first | refine blk_drewN ?_ _ | refine blk_drew ?_ | refine blk_alloc ?_ _)); refine blk_put (cs := #[.int .i64 0, .int .i64 0, .int .i64 0, .int .i64 0, .int .i64 0, .int .i64 0, .int .i64 0]) ?_ 0 _ rfl; (with_reducible repeat (first | refine blk_drewN ?_ _ | refine blk_drew ?_ | refine blk_alloc ?_ _)); exact BK137.out) hb); have n1_ := Aside0.mk (below_step (by repeat (first | (with_reducible first | exact HB.out | apply below_alloc | apply pw_below_drewN | apply below_drew1 | refine below_set ?_ GE137.out) | exact HB.out)) hb); have n2_ := Aside0.mk (hbox); have n3_ := Aside0.mk ((by rw [hg]; exact (below_size (by repeat (first | (with_reducible first | exact HB.out | apply below_alloc | apply pw_below_drewN | apply below_drew1 | refine below_set ?_ GE137.out) | exact HB.out))) : w.heap.size ≤ gb138)); have n4_ := Aside0.mk ((by rw [hg]; exact (below_size (by repeat (first | (with_reducible first | exact HB.out | apply below_alloc | apply pw_below_drewN | apply below_drew1 | refine below_set ?_ GE137.out) | exact HB.out))) : w.heap.size ≤ gb138)); have n5_ := Aside0.mk ((by rw [hg]; exact Nat.ne_of_lt (blk_lt (g := gb137) (o := .cells #[.int .i64 0, .int .i64 t134, .int .i64 t135, .int .i64 9, .int .i64 9, .int .i64 t136, .int .i64 0] 29 (0, 0)) (by (with_reducible repeat (first | refine blk_drewN ?_ _ | refine blk_drew ?_ | refine blk_alloc ?_ _)); refine blk_put (cs := #[.int .i64 0, .int .i64 t134, .int .i64 t135, .int .i64 9, .int .i64 9, .int .i64 t136, .int .i64 0]) ?_ 6 _ rfl; (with_reducible repeat (first | refine blk_drewN ?_ _ | refine blk_drew ?_ | refine blk_alloc ?_ _)); refine blk_put (cs := #[.int .i64 0, .int .i64 t134, .int .i64 t135, .int .i64 9, .int .i64 9, .int .i64 0, .int .i64 0]) ?_ 5 _ rfl; (with_reducible repeat (first | refine blk_drewN ?_ _ | refine blk_drew ?_ | refine blk_alloc ?_ _)); refine blk_put (cs := #[.int .i64 0, .int .i64 t134, .int .i64 t135, .int .i64 9, .int .i64 0, .int .i64 0, .int .i64 0]) ?_ 4 _ rfl; (with_reducible repeat (first | refine blk_drewN ?_ _ | refine blk_drew ?_ | refine blk_alloc ?_ _)); refine blk_put (cs := #[.int .i64 0, .int .i64 t134, .int .i64 t135, .int .i64 0, .int .i64 0, .int .i64 0, .int .i64 0]) ?_ 3 _ rfl; (with_reducible repeat (first | refine blk_drewN ?_ _ | refine blk_drew ?_ | refine blk_alloc ?_ _)); refine blk_put (cs := #[.int .i64 0, .int .i64 t134, .int .i64 0, .int .i64 0, .int .i64 0, .int .i64 0, .int .i64 0]) ?_ 2 _ rfl; (with_reducible repeat (first | refine blk_drewN ?_ _ | refine blk_drew ?_ | refine blk_alloc ?_ _)); refine blk_put (cs := #[.int .i64 0, .int .i64 0, .int .i64 0, .int .i64 0, .int .i64 0, .int .i64 0, .int .i64 0]) ?_ 1 _ rfl; (with_reducible repeat (first | refine blk_drewN ?_ _ | refine blk_drew ?_ | refine blk_alloc ?_ _)); refine blk_put (cs := #[.int .i64 0, .int .i64 0, .int .i64 0, .int .i64 0, .int .i64 0, .int .i64 0, .int .i64 0]) ?_ 0 _ rfl; (with_reducible repeat (first | refine blk_drewN ?_ _ | refine blk_drew ?_ | refine blk_alloc ?_ _)); exact BK137.out)) : gb137 ≠ gb138)); have n6_ := Aside0.mk ((by rw [hg]; exact Nat.ne_of_gt (blk_lt (g := gb137) (o := .cells #[.int .i64 0, .int .i64 t134, .int .i64 t135, .int .i64 9, .int .i64 9, .int .i64 t136, .int .i64 0] 29 (0, 0)) (by (with_reducible repeat (first | refine blk_drewN ?_ _ | refine blk_drew ?_ | refine blk_alloc ?_ _)); refine blk_put (cs := #[.int .i64 0, .int .i64 t134, .int .i64 t135, .int .i64 9, .int .i64 9, .int .i64 t136, .int .i64 0]) ?_ 6 _ rfl; (with_reducible repeat (first | refine blk_drewN ?_ _ | refine blk_drew ?_ | refine blk_alloc ?_ _)); refine blk_put (cs := #[.int .i64 0, .int .i64 t134, .int .i64 t135, .int .i64 9, .int .i64 9, .int .i64 0, .int .i64 0]) ?_ 5 _ rfl; (with_reducible repeat (first | refine blk_drewN ?_ _ | refine blk_drew ?_ | refine blk_alloc ?_ _)); refine blk_put (cs := #[.int .i64 0, .int .i64 t134, .int .i64 t135, .int .i64 9, .int .i64 0, .int .i64 0, .int .i64 0]) ?_ 4 _ rfl; (with_reducible repeat (first | refine blk_drewN ?_ _ | refine blk_drew ?_ | refine blk_alloc ?_ _)); refine blk_put (cs := #[.int .i64 0, .int .i64 t134, .int .i64 t135, .int .i64 0, .int .i64 0, .int .i64 0, .int .i64 0]) ?_ 3 _ rfl; (with_reducible repeat (first | refine blk_drewN ?_ _ | refine blk_drew ?_ | refine blk_alloc ?_ _)); refine blk_put (cs := #[.int .i64 0, .int .i64 t134, .int .i64 0, .int .i64 0, .int .i64 0, .int .i64 0, .int .i64 0]) ?_ 2 _ rfl; (with_reducible repeat (first | refine blk_drewN ?_ _ | refine blk_drew ?_ | refine blk_alloc ?_ _)); refine blk_put (cs := #[.int .i64 0, .int .i64 0, .int .i64 0, .int .i64 0, .int .i64 0, .int .i64 0, .int .i64 0]) ?_ 1 _ rfl; (with_reducible repeat (first | refine blk_drewN ?_ _ | refine blk_drew ?_ | refine blk_alloc ?_ _)); refine blk_put (cs := #[.int .i64 0, .int .i64 0, .int .i64 0, .int .i64 0, .int .i64 0, .int .i64 0, .int .i64 0]) ?_ 0 _ rfl; (with_reducible repeat (first | refine blk_drewN ?_ _ | refine blk_drew ?_ | refine blk_alloc ?_ _)); exact BK137.out)) : gb138 ≠ gb137)); clear BK137; clear HB; have BK137 := n0_; have HB := n1_; have BK138 := n2_; have GW138 := n3_; have GE138 := n4_; have NB137_138 := n5_; have NB138_137 := n6_; clear n0_ n1_ n2_ n3_ n4_ n5_ n6_; clear hb hbox hg))
  go_loopg [12, 13, 14] k (fun kq v12 v13 v14 w' => ∃ (x12_1 : Int) (x13_1 : Int) (x14_1 : Int) (x139000_1 : Int) (x139001_1 : Int) (x139002_1 : Int) (x139003_1 : Int), v12 = .int .i64 x12_1 ∧ v13 = .int .i64 x13_1 ∧ v14 = .int .i64 x14_1 ∧ Aside0 (beguinagelaw22_QuotaGrace.l0 kq l3 t134 x12_1 x13_1 x14_1 0 t134 t135 9 9 t136 0 x139000_1 x139001_1 x139002_1 x139003_1 = some r) ∧ Aside0 (kq ≤ k) ∧ Aside0 (w'.heap[gb137]? = some (.cells #[.int .i64 0, .int .i64 t134, .int .i64 t135, .int .i64 9, .int .i64 9, .int .i64 t136, .int .i64 0] 29 (0, 0))) ∧ Aside0 (w'.heap[gb138]? = some (.cells #[.int .i64 x139000_1, .int .i64 x139001_1, .int .i64 x139002_1, .int .i64 x139003_1] 53 (0, 0))) ∧ Aside0 (Below w.heap.size w w'))
  case atStart => exact ⟨(0), ((-1)), (0), (0), (0), (0), (0), (by first | rfl | (simp; done) | (simp [*]; done)), (by first | rfl | (simp; done) | (simp [*]; done)), (by first | rfl | (simp; done) | (simp [*]; done)), H', ⟨Nat.le_refl _⟩, ⟨by (with_reducible repeat (first | refine blk_drewN ?_ _ | refine blk_drew ?_ | refine blk_alloc ?_ _)); exact BK137.out⟩, ⟨by (with_reducible repeat (first | refine blk_drewN ?_ _ | refine blk_drew ?_ | refine blk_alloc ?_ _)); exact BK138.out⟩, ⟨by repeat (first | (with_reducible first | exact HB.out | apply below_alloc | apply pw_below_drewN | apply below_drew1 | refine below_set ?_ GE137.out | refine below_set ?_ GE138.out) | exact HB.out)⟩⟩
  case round =>
    clear H'
    try clear c1
    try clear p2
    try clear c3
    try clear p6
    try clear hcz9_0
    try clear hcz9_1
    try clear hcz9_2
    try clear hcz9_3
    try clear hcz9_4
    try clear hcz9_5
    try clear hcz9_6
    try clear hfz9_0
    try clear hfz9_1
    try clear hfz9_2
    try clear hfz9_3
    try clear hfz9_4
    try clear hfz9_5
    try clear hfz9_6
    obtain ⟨x12_1, x13_1, x14_1, x139000_1, x139001_1, x139002_1, x139003_1, rfl, rfl, rfl, HA, HK1, BK137, BK138, HB⟩ := hrel
    cases gk with
    | zero => exact absurd HA.out (by simp [beguinagelaw22_QuotaGrace.l0])
    | succ k1 =>
      have H := HA.out
      clear HA
      simp only [beguinagelaw22_QuotaGrace.l0] at H
      have HC11 := Aside0.mk H
      clear H
      go_upto_region 6 with (fail)
      go_cut [35] (fun v35 wc => ∃ (kq : Nat) (x35_10 : Bool), v35 = .bool x35_10 ∧ Aside0 (beguinagelaw22_QuotaGrace.j1 kq l3 t134 x12_1 x13_1 x14_1 x35_10 0 t134 t135 9 9 t136 0 x139000_1 x139001_1 x139002_1 x139003_1 = some r) ∧ Aside0 (kq ≤ k1) ∧ Aside0 (wc.heap[gb137]? = some (.cells #[.int .i64 0, .int .i64 t134, .int .i64 t135, .int .i64 9, .int .i64 9, .int .i64 t136, .int .i64 0] 29 (0, 0))) ∧ Aside0 (wc.heap[gb138]? = some (.cells #[.int .i64 x139000_1, .int .i64 x139001_1, .int .i64 x139002_1, .int .i64 x139003_1] 53 (0, 0))) ∧ Aside0 (Below w.heap.size w wc))
      case first =>
        have H := HC11.out
        clear HC11
        by_cases c12 : x14_1 < (l3.length : Int)
        · rw [if_pos c12] at H
          have c12b0 : decide (x14_1 < (l3.length : Int)) = true := decide_eq_true c12
          clear c12
          (first | rw [c12b0] | (simp only [i64_w, i32_w]; rw [c12b0]) | skip)
          have H' := Aside0.mk H
          clear H
          go_wp2
          go_meet
          case rel => exact ⟨_, (decide (x14_1 < 100)), (by first | rfl | (simp; done) | (simp [*]; done)), H', ⟨by have := HK1.out; first | omega | exact Nat.le_refl _⟩, ⟨by (with_reducible repeat (first | refine blk_drewN ?_ _ | refine blk_drew ?_ | refine blk_alloc ?_ _)); exact BK137.out⟩, ⟨by (with_reducible repeat (first | refine blk_drewN ?_ _ | refine blk_drew ?_ | refine blk_alloc ?_ _)); exact BK138.out⟩, ⟨by repeat (first | (with_reducible first | exact HB.out | apply below_alloc | apply pw_below_drewN | apply below_drew1 | refine below_set ?_ GE137.out | refine below_set ?_ GE138.out) | exact HB.out)⟩⟩
        · rw [if_neg c12] at H
          have c12b0 : decide (x14_1 < (l3.length : Int)) = false := decide_eq_false c12
          clear c12
          (first | rw [c12b0] | (simp only [i64_w, i32_w]; rw [c12b0]) | skip)
          have H' := Aside0.mk H
          clear H
          go_wp2
          go_meet
          case rel => exact ⟨_, (false), (by first | rfl | (simp; done) | (simp [*]; done)), H', ⟨by have := HK1.out; first | omega | exact Nat.le_refl _⟩, ⟨by (with_reducible repeat (first | refine blk_drewN ?_ _ | refine blk_drew ?_ | refine blk_alloc ?_ _)); exact BK137.out⟩, ⟨by (with_reducible repeat (first | refine blk_drewN ?_ _ | refine blk_drew ?_ | refine blk_alloc ?_ _)); exact BK138.out⟩, ⟨by repeat (first | (with_reducible first | exact HB.out | apply below_alloc | apply pw_below_drewN | apply below_drew1 | refine below_set ?_ GE137.out | refine below_set ?_ GE138.out) | exact HB.out)⟩⟩
      case rest =>
        clear HC11
        try clear c1
        try clear p2
        try clear c3
        try clear p6
        try clear c11
        try clear c12
        try clear c12b0
        try clear hcz9_0
        try clear hcz9_1
        try clear hcz9_2
        try clear hcz9_3
        try clear hcz9_4
        try clear hcz9_5
        try clear hcz9_6
        try clear hfz9_0
        try clear hfz9_1
        try clear hfz9_2
        try clear hfz9_3
        try clear hfz9_4
        try clear hfz9_5
        try clear hfz9_6
        try clear p2
        try clear p6
        obtain ⟨kq, x35_10, rfl, HA, HJ10, BK137, BK138, HB⟩ := hcut
        cases kq with
        | zero => exact absurd HA.out (by simp [beguinagelaw22_QuotaGrace.j1])
        | succ kj10 =>
          have H := HA.out
          clear HA
          simp only [beguinagelaw22_QuotaGrace.j1] at H
          by_cases c13 : x35_10 = true
          · subst c13
            have H1 : (if 0 ≤ x14_1 then (if x14_1 < (l3.length : Int) then ((beguinagelaw00_Place.f (rd l3 x14_1) 1048576).bind fun t141 => (if (wrap64 ((wrap64 (x139000_1 + (Int.tmod (wrap64 (Int.tdiv t141 4)) 9))) - 4)) < 0 then (beguinagelaw22_QuotaGrace.l0 kj10 l3 t134 (wrap64 (x12_1 + (Int.tmod t141 4))) x13_1 (wrap64 (x14_1 + 1)) 0 t134 t135 9 9 t136 0 x139000_1 x139001_1 x139002_1 x139003_1) else (if (wrap64 ((wrap64 (x139000_1 + (Int.tmod (wrap64 (Int.tdiv t141 4)) 9))) - 4)) ≤ x139000_1 then (beguinagelaw22_QuotaGrace.j2 kj10 l3 t134 (wrap64 (x12_1 + (Int.tmod t141 4))) x13_1 x14_1 (wrap64 ((wrap64 (x139000_1 + (Int.tmod (wrap64 (Int.tdiv t141 4)) 9))) - 4)) true 0 t134 t135 9 9 t136 0 x139000_1 x139001_1 x139002_1 x139003_1) else (if (wrap64 ((wrap64 (x139000_1 + (Int.tmod (wrap64 (Int.tdiv t141 4)) 9))) - 4)) ≤ t135 then (beguinagelaw22_QuotaGrace.j2 kj10 l3 t134 (wrap64 (x12_1 + (Int.tmod t141 4))) x13_1 x14_1 (wrap64 ((wrap64 (x139000_1 + (Int.tmod (wrap64 (Int.tdiv t141 4)) 9))) - 4)) true 0 t134 t135 9 9 t136 0 x139000_1 x139001_1 x139002_1 x139003_1) else (if (wrap64 ((wrap64 (x139000_1 + (Int.tmod (wrap64 (Int.tdiv t141 4)) 9))) - 4)) ≤ t134 then (if t136 > 0 then (if x13_1 < 0 then (beguinagelaw22_QuotaGrace.j2 kj10 l3 t134 (wrap64 (x12_1 + (Int.tmod t141 4))) x13_1 x14_1 (wrap64 ((wrap64 (x139000_1 + (Int.tmod (wrap64 (Int.tdiv t141 4)) 9))) - 4)) true 0 t134 t135 9 9 t136 0 x139000_1 x139001_1 x139002_1 x139003_1) else (beguinagelaw22_QuotaGrace.j2 kj10 l3 t134 (wrap64 (x12_1 + (Int.tmod t141 4))) x13_1 x14_1 (wrap64 ((wrap64 (x139000_1 + (Int.tmod (wrap64 (Int.tdiv t141 4)) 9))) - 4)) (decide ((wrap64 ((wrap64 (x12_1 + (Int.tmod t141 4))) - x13_1)) < t136)) 0 t134 t135 9 9 t136 0 x139000_1 x139001_1 x139002_1 x139003_1)) else (beguinagelaw22_QuotaGrace.j2 kj10 l3 t134 (wrap64 (x12_1 + (Int.tmod t141 4))) x13_1 x14_1 (wrap64 ((wrap64 (x139000_1 + (Int.tmod (wrap64 (Int.tdiv t141 4)) 9))) - 4)) false 0 t134 t135 9 9 t136 0 x139000_1 x139001_1 x139002_1 x139003_1)) else (beguinagelaw22_QuotaGrace.j2 kj10 l3 t134 (wrap64 (x12_1 + (Int.tmod t141 4))) x13_1 x14_1 (wrap64 ((wrap64 (x139000_1 + (Int.tmod (wrap64 (Int.tdiv t141 4)) 9))) - 4)) false 0 t134 t135 9 9 t136 0 x139000_1 x139001_1 x139002_1 x139003_1)))))) else (none)) else (none)) = some r := by rw [if_pos rfl] at H; exact H
            clear H
            have H := H1
            clear H1
            by_cases c14 : 0 ≤ x14_1
            · rw [if_pos c14] at H
              have c14b0 : decide (0 ≤ x14_1) = true := decide_eq_true c14
              clear c14
              by_cases c15 : x14_1 < (l3.length : Int)
              · rw [if_pos c15] at H
                have c15b0 : decide (x14_1 < (l3.length : Int)) = true := decide_eq_true c15
                clear c15
                replace H := Option.bind_eq_some_iff.mp H
                obtain ⟨t141, A160, H⟩ := H
                replace H : (if (wrap64 ((wrap64 (x139000_1 + (Int.tmod (wrap64 (Int.tdiv t141 4)) 9))) - 4)) < 0 then (beguinagelaw22_QuotaGrace.l0 kj10 l3 t134 (wrap64 (x12_1 + (Int.tmod t141 4))) x13_1 (wrap64 (x14_1 + 1)) 0 t134 t135 9 9 t136 0 x139000_1 x139001_1 x139002_1 x139003_1) else (if (wrap64 ((wrap64 (x139000_1 + (Int.tmod (wrap64 (Int.tdiv t141 4)) 9))) - 4)) ≤ x139000_1 then (beguinagelaw22_QuotaGrace.j2 kj10 l3 t134 (wrap64 (x12_1 + (Int.tmod t141 4))) x13_1 x14_1 (wrap64 ((wrap64 (x139000_1 + (Int.tmod (wrap64 (Int.tdiv t141 4)) 9))) - 4)) true 0 t134 t135 9 9 t136 0 x139000_1 x139001_1 x139002_1 x139003_1) else (if (wrap64 ((wrap64 (x139000_1 + (Int.tmod (wrap64 (Int.tdiv t141 4)) 9))) - 4)) ≤ t135 then (beguinagelaw22_QuotaGrace.j2 kj10 l3 t134 (wrap64 (x12_1 + (Int.tmod t141 4))) x13_1 x14_1 (wrap64 ((wrap64 (x139000_1 + (Int.tmod (wrap64 (Int.tdiv t141 4)) 9))) - 4)) true 0 t134 t135 9 9 t136 0 x139000_1 x139001_1 x139002_1 x139003_1) else (if (wrap64 ((wrap64 (x139000_1 + (Int.tmod (wrap64 (Int.tdiv t141 4)) 9))) - 4)) ≤ t134 then (if t136 > 0 then (if x13_1 < 0 then (beguinagelaw22_QuotaGrace.j2 kj10 l3 t134 (wrap64 (x12_1 + (Int.tmod t141 4))) x13_1 x14_1 (wrap64 ((wrap64 (x139000_1 + (Int.tmod (wrap64 (Int.tdiv t141 4)) 9))) - 4)) true 0 t134 t135 9 9 t136 0 x139000_1 x139001_1 x139002_1 x139003_1) else (beguinagelaw22_QuotaGrace.j2 kj10 l3 t134 (wrap64 (x12_1 + (Int.tmod t141 4))) x13_1 x14_1 (wrap64 ((wrap64 (x139000_1 + (Int.tmod (wrap64 (Int.tdiv t141 4)) 9))) - 4)) (decide ((wrap64 ((wrap64 (x12_1 + (Int.tmod t141 4))) - x13_1)) < t136)) 0 t134 t135 9 9 t136 0 x139000_1 x139001_1 x139002_1 x139003_1)) else (beguinagelaw22_QuotaGrace.j2 kj10 l3 t134 (wrap64 (x12_1 + (Int.tmod t141 4))) x13_1 x14_1 (wrap64 ((wrap64 (x139000_1 + (Int.tmod (wrap64 (Int.tdiv t141 4)) 9))) - 4)) false 0 t134 t135 9 9 t136 0 x139000_1 x139001_1 x139002_1 x139003_1)) else (beguinagelaw22_QuotaGrace.j2 kj10 l3 t134 (wrap64 (x12_1 + (Int.tmod t141 4))) x13_1 x14_1 (wrap64 ((wrap64 (x139000_1 + (Int.tmod (wrap64 (Int.tdiv t141 4)) 9))) - 4)) false 0 t134 t135 9 9 t136 0 x139000_1 x139001_1 x139002_1 x139003_1))))) = some r := H
                have A16 := Aside0.mk A160
                clear A160
                by_cases c17 : (wrap64 ((wrap64 (x139000_1 + (Int.tmod (wrap64 (Int.tdiv t141 4)) 9))) - 4)) < 0
                · rw [if_pos c17] at H
                  have c17b0 : decide ((wrap64 ((wrap64 (x139000_1 + (Int.tmod (wrap64 (Int.tdiv t141 4)) 9))) - 4)) < 0) = true := decide_eq_true c17
                  clear c17
                  have H' := Aside0.mk H
                  clear H
                  have p140 : 0 ≤ (x14_1 : Int) := of_decide_eq_true (by first | (with_reducible assumption) | assumption)
                  have q140 : x14_1 < (l3.length : Int) := of_decide_eq_true (by first | (with_reducible assumption) | assumption)
                  obtain ⟨ad140, e140, hx140_0⟩ := Kd.at_int HR3.out x14_1 p140 q140
                  cases e140
                  replace hx140_0 := (HB.out.cell (World.block_lt_of_cell? w _ hx140_0)).trans hx140_0
                  replace p140 := eq_true p140
                  replace q140 := eq_true q140
                  go_wp2_with (first | ((with_reducible refine gate_callee (f := 14) rfl ?_); refine goesL_ (some 42) rfl rfl Try.func14 (by kernel_rfl) rfl #[.int .i64 (rd l3 x14_1), .int .i64 1048576] rfl (by (try simp only [List.map_toArray, List.map_cons, List.map_nil]); first | done | rfl | (simp only [List.length_drop, List.length_take]; rfl)) ?_; (with_reducible refine (beguinagelaw00_Place.calls (rd l3 x14_1) 1048576 t141 _ A16.out).mono ?_); rintro e w' ⟨rfl, ⟨nd, rfl⟩⟩; refine ⟨_, rfl, ?_⟩; have hnb18 := NB138_137.out; have hnc18 := NB137_138.out; have hcz19_0 : wc.cell? ⟨gb138, 0, none⟩ = some (.int .i64 x139000_1) := (blk_cell BK138.out 0).trans rfl; have hcz19_1 : wc.cell? ⟨gb138, 1, none⟩ = some (.int .i64 x139001_1) := (blk_cell BK138.out 1).trans rfl; have hcz19_2 : wc.cell? ⟨gb138, 2, none⟩ = some (.int .i64 x139002_1) := (blk_cell BK138.out 2).trans rfl; have hcz19_3 : wc.cell? ⟨gb138, 3, none⟩ = some (.int .i64 x139003_1) := (blk_cell BK138.out 3).trans rfl; have hfz19_0 := blk_frozen BK138.out 0; have hfz19_1 := blk_frozen BK138.out 1; have hfz19_2 := blk_frozen BK138.out 2; have hfz19_3 := blk_frozen BK138.out 3))
                  go_roundg kj10
                  case measure => have := HK1.out; have := HJ10.out; omega
                  case rel => exact ⟨(wrap64 (x12_1 + (Int.tmod t141 4))), (x13_1), (wrap64 (x14_1 + 1)), (x139000_1), (x139001_1), (x139002_1), (x139003_1), (by first | rfl | (simp; done) | (simp [*]; done)), (by first | rfl | (simp; done) | (simp [*]; done)), (by first | rfl | (simp; done) | (simp [*]; done)), H', ⟨by have := HK1.out; have := HJ10.out; omega⟩, ⟨by (with_reducible repeat (first | refine blk_drewN ?_ _ | refine blk_drew ?_ | refine blk_alloc ?_ _)); exact BK137.out⟩, ⟨by (with_reducible repeat (first | refine blk_drewN ?_ _ | refine blk_drew ?_ | refine blk_alloc ?_ _)); exact BK138.out⟩, ⟨by repeat (first | (with_reducible first | exact HB.out | apply below_alloc | apply pw_below_drewN | apply below_drew1 | refine below_set ?_ GE137.out | refine below_set ?_ GE138.out) | exact HB.out)⟩⟩
                · rw [if_neg c17] at H
                  have c17b0 : decide ((wrap64 ((wrap64 (x139000_1 + (Int.tmod (wrap64 (Int.tdiv t141 4)) 9))) - 4)) < 0) = false := decide_eq_false c17
                  clear c17
                  have HC20 := Aside0.mk H
                  clear H
                  have p140 : 0 ≤ (x14_1 : Int) := of_decide_eq_true (by first | (with_reducible assumption) | assumption)
                  have q140 : x14_1 < (l3.length : Int) := of_decide_eq_true (by first | (with_reducible assumption) | assumption)
                  obtain ⟨ad140, e140, hx140_0⟩ := Kd.at_int HR3.out x14_1 p140 q140
                  cases e140
                  replace hx140_0 := (HB.out.cell (World.block_lt_of_cell? w _ hx140_0)).trans hx140_0
                  replace p140 := eq_true p140
                  replace q140 := eq_true q140
                  go_upto_region 12 with (first | ((with_reducible refine gate_callee (f := 14) rfl ?_); refine goesL_ (some 42) rfl rfl Try.func14 (by kernel_rfl) rfl #[.int .i64 (rd l3 x14_1), .int .i64 1048576] rfl (by (try simp only [List.map_toArray, List.map_cons, List.map_nil]); first | done | rfl | (simp only [List.length_drop, List.length_take]; rfl)) ?_; (with_reducible refine (beguinagelaw00_Place.calls (rd l3 x14_1) 1048576 t141 _ A16.out).mono ?_); rintro e w' ⟨rfl, ⟨nd, rfl⟩⟩; refine ⟨_, rfl, ?_⟩; have hnb21 := NB138_137.out; have hnc21 := NB137_138.out; have hcz22_0 : wc.cell? ⟨gb138, 0, none⟩ = some (.int .i64 x139000_1) := (blk_cell BK138.out 0).trans rfl; have hcz22_1 : wc.cell? ⟨gb138, 1, none⟩ = some (.int .i64 x139001_1) := (blk_cell BK138.out 1).trans rfl; have hcz22_2 : wc.cell? ⟨gb138, 2, none⟩ = some (.int .i64 x139002_1) := (blk_cell BK138.out 2).trans rfl; have hcz22_3 : wc.cell? ⟨gb138, 3, none⟩ = some (.int .i64 x139003_1) := (blk_cell BK138.out 3).trans rfl; have hfz22_0 := blk_frozen BK138.out 0; have hfz22_1 := blk_frozen BK138.out 1; have hfz22_2 := blk_frozen BK138.out 2; have hfz22_3 := blk_frozen BK138.out 3))
                  (try simp only [Act.put, List.setIfInBounds_toArray, List.set_cons_zero, List.set_cons_succ])
                  go_cut [17] (fun v17 wc => ∃ (kq : Nat) (x17_19 : Bool), v17 = .bool x17_19 ∧ Aside0 (beguinagelaw22_QuotaGrace.j2 kq l3 t134 (wrap64 (x12_1 + (Int.tmod t141 4))) x13_1 x14_1 (wrap64 ((wrap64 (x139000_1 + (Int.tmod (wrap64 (Int.tdiv t141 4)) 9))) - 4)) x17_19 0 t134 t135 9 9 t136 0 x139000_1 x139001_1 x139002_1 x139003_1 = some r) ∧ Aside0 (kq ≤ kj10) ∧ Aside0 (wc.heap[gb137]? = some (.cells #[.int .i64 0, .int .i64 t134, .int .i64 t135, .int .i64 9, .int .i64 9, .int .i64 t136, .int .i64 0] 29 (0, 0))) ∧ Aside0 (wc.heap[gb138]? = some (.cells #[.int .i64 x139000_1, .int .i64 x139001_1, .int .i64 x139002_1, .int .i64 x139003_1] 53 (0, 0))) ∧ Aside0 (Below w.heap.size w wc))
                  case first =>
                    have H := HC20.out
                    clear HC20
                    by_cases c23 : (wrap64 ((wrap64 (x139000_1 + (Int.tmod (wrap64 (Int.tdiv t141 4)) 9))) - 4)) ≤ x139000_1
                    · rw [if_pos c23] at H
                      have c23b0 : decide ((wrap64 ((wrap64 (x139000_1 + (Int.tmod (wrap64 (Int.tdiv t141 4)) 9))) - 4)) ≤ x139000_1) = true := decide_eq_true c23
                      clear c23
                      (first | rw [c23b0] | (simp only [i64_w, i32_w]; rw [c23b0]) | skip)
                      have H' := Aside0.mk H
                      clear H
                      have hnb24 := NB138_137.out
                      have hnc24 := NB137_138.out
                      have hcz25_0 : wc.cell? ⟨gb138, 0, none⟩ = some (.int .i64 x139000_1) := (blk_cell BK138.out 0).trans rfl
                      have hcz25_1 : wc.cell? ⟨gb138, 1, none⟩ = some (.int .i64 x139001_1) := (blk_cell BK138.out 1).trans rfl
                      have hcz25_2 : wc.cell? ⟨gb138, 2, none⟩ = some (.int .i64 x139002_1) := (blk_cell BK138.out 2).trans rfl
                      have hcz25_3 : wc.cell? ⟨gb138, 3, none⟩ = some (.int .i64 x139003_1) := (blk_cell BK138.out 3).trans rfl
                      have hfz25_0 := blk_frozen BK138.out 0
                      have hfz25_1 := blk_frozen BK138.out 1
                      have hfz25_2 := blk_frozen BK138.out 2
                      have hfz25_3 := blk_frozen BK138.out 3
                      go_wp2
                      go_meet
                      case rel => exact ⟨_, (true), (by first | rfl | (simp; done) | (simp [*]; done)), H', ⟨by have := HK1.out; have := HJ10.out; first | omega | exact Nat.le_refl _⟩, ⟨by (with_reducible repeat (first | refine blk_drewN ?_ _ | refine blk_drew ?_ | refine blk_alloc ?_ _)); exact BK137.out⟩, ⟨by (with_reducible repeat (first | refine blk_drewN ?_ _ | refine blk_drew ?_ | refine blk_alloc ?_ _)); exact BK138.out⟩, ⟨by repeat (first | (with_reducible first | exact HB.out | apply below_alloc | apply pw_below_drewN | apply below_drew1 | refine below_set ?_ GE137.out | refine below_set ?_ GE138.out) | exact HB.out)⟩⟩
                    · rw [if_neg c23] at H
                      have c23b0 : decide ((wrap64 ((wrap64 (x139000_1 + (Int.tmod (wrap64 (Int.tdiv t141 4)) 9))) - 4)) ≤ x139000_1) = false := decide_eq_false c23
                      clear c23
                      (first | rw [c23b0] | (simp only [i64_w, i32_w]; rw [c23b0]) | skip)
                      by_cases c26 : (wrap64 ((wrap64 (x139000_1 + (Int.tmod (wrap64 (Int.tdiv t141 4)) 9))) - 4)) ≤ t135
                      · rw [if_pos c26] at H
                        have c26b0 : decide ((wrap64 ((wrap64 (x139000_1 + (Int.tmod (wrap64 (Int.tdiv t141 4)) 9))) - 4)) ≤ t135) = true := decide_eq_true c26
                        clear c26
                        have H' := Aside0.mk H
                        clear H
                        have hnb27 := NB138_137.out
                        have hnc27 := NB137_138.out
                        have hcz28_0 : wc.cell? ⟨gb138, 0, none⟩ = some (.int .i64 x139000_1) := (blk_cell BK138.out 0).trans rfl
                        have hcz28_1 : wc.cell? ⟨gb138, 1, none⟩ = some (.int .i64 x139001_1) := (blk_cell BK138.out 1).trans rfl
                        have hcz28_2 : wc.cell? ⟨gb138, 2, none⟩ = some (.int .i64 x139002_1) := (blk_cell BK138.out 2).trans rfl
                        have hcz28_3 : wc.cell? ⟨gb138, 3, none⟩ = some (.int .i64 x139003_1) := (blk_cell BK138.out 3).trans rfl
                        have hfz28_0 := blk_frozen BK138.out 0
                        have hfz28_1 := blk_frozen BK138.out 1
                        have hfz28_2 := blk_frozen BK138.out 2
                        have hfz28_3 := blk_frozen BK138.out 3
                        have hcz29_0 : wc.cell? ⟨gb137, 0, none⟩ = some (.int .i64 0) := (blk_cell BK137.out 0).trans rfl
                        have hcz29_1 : wc.cell? ⟨gb137, 1, none⟩ = some (.int .i64 t134) := (blk_cell BK137.out 1).trans rfl
                        have hcz29_2 : wc.cell? ⟨gb137, 2, none⟩ = some (.int .i64 t135) := (blk_cell BK137.out 2).trans rfl
                        have hcz29_3 : wc.cell? ⟨gb137, 3, none⟩ = some (.int .i64 9) := (blk_cell BK137.out 3).trans rfl
                        have hcz29_4 : wc.cell? ⟨gb137, 4, none⟩ = some (.int .i64 9) := (blk_cell BK137.out 4).trans rfl
                        have hcz29_5 : wc.cell? ⟨gb137, 5, none⟩ = some (.int .i64 t136) := (blk_cell BK137.out 5).trans rfl
                        have hcz29_6 : wc.cell? ⟨gb137, 6, none⟩ = some (.int .i64 0) := (blk_cell BK137.out 6).trans rfl
                        have hfz29_0 := blk_frozen BK137.out 0
                        have hfz29_1 := blk_frozen BK137.out 1
                        have hfz29_2 := blk_frozen BK137.out 2
                        have hfz29_3 := blk_frozen BK137.out 3
                        have hfz29_4 := blk_frozen BK137.out 4
                        have hfz29_5 := blk_frozen BK137.out 5
                        have hfz29_6 := blk_frozen BK137.out 6
                        go_wp2
                        go_meet
                        case rel => exact ⟨_, (true), (by first | rfl | (simp; done) | (simp [*]; done)), H', ⟨by have := HK1.out; have := HJ10.out; first | omega | exact Nat.le_refl _⟩, ⟨by (with_reducible repeat (first | refine blk_drewN ?_ _ | refine blk_drew ?_ | refine blk_alloc ?_ _)); exact BK137.out⟩, ⟨by (with_reducible repeat (first | refine blk_drewN ?_ _ | refine blk_drew ?_ | refine blk_alloc ?_ _)); exact BK138.out⟩, ⟨by repeat (first | (with_reducible first | exact HB.out | apply below_alloc | apply pw_below_drewN | apply below_drew1 | refine below_set ?_ GE137.out | refine below_set ?_ GE138.out) | exact HB.out)⟩⟩
                      · rw [if_neg c26] at H
                        have c26b0 : decide ((wrap64 ((wrap64 (x139000_1 + (Int.tmod (wrap64 (Int.tdiv t141 4)) 9))) - 4)) ≤ t135) = false := decide_eq_false c26
                        clear c26
                        by_cases c30 : (wrap64 ((wrap64 (x139000_1 + (Int.tmod (wrap64 (Int.tdiv t141 4)) 9))) - 4)) ≤ t134
                        · rw [if_pos c30] at H
                          have c30b0 : decide ((wrap64 ((wrap64 (x139000_1 + (Int.tmod (wrap64 (Int.tdiv t141 4)) 9))) - 4)) ≤ t134) = true := decide_eq_true c30
                          clear c30
                          by_cases c31 : t136 > 0
                          · rw [if_pos c31] at H
                            have c31b0 : decide (0 < t136) = true := decide_eq_true c31
                            clear c31
                            by_cases c32 : x13_1 < 0
                            · rw [if_pos c32] at H
                              have c32b0 : decide (x13_1 < 0) = true := decide_eq_true c32
                              clear c32
                              have H' := Aside0.mk H
                              clear H
                              have hnb33 := NB138_137.out
                              have hnc33 := NB137_138.out
                              have hcz34_0 : wc.cell? ⟨gb138, 0, none⟩ = some (.int .i64 x139000_1) := (blk_cell BK138.out 0).trans rfl
                              have hcz34_1 : wc.cell? ⟨gb138, 1, none⟩ = some (.int .i64 x139001_1) := (blk_cell BK138.out 1).trans rfl
                              have hcz34_2 : wc.cell? ⟨gb138, 2, none⟩ = some (.int .i64 x139002_1) := (blk_cell BK138.out 2).trans rfl
                              have hcz34_3 : wc.cell? ⟨gb138, 3, none⟩ = some (.int .i64 x139003_1) := (blk_cell BK138.out 3).trans rfl
                              have hfz34_0 := blk_frozen BK138.out 0
                              have hfz34_1 := blk_frozen BK138.out 1
                              have hfz34_2 := blk_frozen BK138.out 2
                              have hfz34_3 := blk_frozen BK138.out 3
                              have hcz35_0 : wc.cell? ⟨gb137, 0, none⟩ = some (.int .i64 0) := (blk_cell BK137.out 0).trans rfl
                              have hcz35_1 : wc.cell? ⟨gb137, 1, none⟩ = some (.int .i64 t134) := (blk_cell BK137.out 1).trans rfl
                              have hcz35_2 : wc.cell? ⟨gb137, 2, none⟩ = some (.int .i64 t135) := (blk_cell BK137.out 2).trans rfl
                              have hcz35_3 : wc.cell? ⟨gb137, 3, none⟩ = some (.int .i64 9) := (blk_cell BK137.out 3).trans rfl
                              have hcz35_4 : wc.cell? ⟨gb137, 4, none⟩ = some (.int .i64 9) := (blk_cell BK137.out 4).trans rfl
                              have hcz35_5 : wc.cell? ⟨gb137, 5, none⟩ = some (.int .i64 t136) := (blk_cell BK137.out 5).trans rfl
                              have hcz35_6 : wc.cell? ⟨gb137, 6, none⟩ = some (.int .i64 0) := (blk_cell BK137.out 6).trans rfl
                              have hfz35_0 := blk_frozen BK137.out 0
                              have hfz35_1 := blk_frozen BK137.out 1
                              have hfz35_2 := blk_frozen BK137.out 2
                              have hfz35_3 := blk_frozen BK137.out 3
                              have hfz35_4 := blk_frozen BK137.out 4
                              have hfz35_5 := blk_frozen BK137.out 5
                              have hfz35_6 := blk_frozen BK137.out 6
                              go_wp2
                              go_meet
                              case rel => exact ⟨_, (true), (by first | rfl | (simp; done) | (simp [*]; done)), H', ⟨by have := HK1.out; have := HJ10.out; first | omega | exact Nat.le_refl _⟩, ⟨by (with_reducible repeat (first | refine blk_drewN ?_ _ | refine blk_drew ?_ | refine blk_alloc ?_ _)); exact BK137.out⟩, ⟨by (with_reducible repeat (first | refine blk_drewN ?_ _ | refine blk_drew ?_ | refine blk_alloc ?_ _)); exact BK138.out⟩, ⟨by repeat (first | (with_reducible first | exact HB.out | apply below_alloc | apply pw_below_drewN | apply below_drew1 | refine below_set ?_ GE137.out | refine below_set ?_ GE138.out) | exact HB.out)⟩⟩
                            · rw [if_neg c32] at H
                              have c32b0 : decide (x13_1 < 0) = false := decide_eq_false c32
                              clear c32
                              have H' := Aside0.mk H
                              clear H
                              have hnb36 := NB138_137.out
                              have hnc36 := NB137_138.out
                              have hcz37_0 : wc.cell? ⟨gb138, 0, none⟩ = some (.int .i64 x139000_1) := (blk_cell BK138.out 0).trans rfl
                              have hcz37_1 : wc.cell? ⟨gb138, 1, none⟩ = some (.int .i64 x139001_1) := (blk_cell BK138.out 1).trans rfl
                              have hcz37_2 : wc.cell? ⟨gb138, 2, none⟩ = some (.int .i64 x139002_1) := (blk_cell BK138.out 2).trans rfl
                              have hcz37_3 : wc.cell? ⟨gb138, 3, none⟩ = some (.int .i64 x139003_1) := (blk_cell BK138.out 3).trans rfl
                              have hfz37_0 := blk_frozen BK138.out 0
                              have hfz37_1 := blk_frozen BK138.out 1
                              have hfz37_2 := blk_frozen BK138.out 2
                              have hfz37_3 := blk_frozen BK138.out 3
                              have hcz38_0 : wc.cell? ⟨gb137, 0, none⟩ = some (.int .i64 0) := (blk_cell BK137.out 0).trans rfl
                              have hcz38_1 : wc.cell? ⟨gb137, 1, none⟩ = some (.int .i64 t134) := (blk_cell BK137.out 1).trans rfl
                              have hcz38_2 : wc.cell? ⟨gb137, 2, none⟩ = some (.int .i64 t135) := (blk_cell BK137.out 2).trans rfl
                              have hcz38_3 : wc.cell? ⟨gb137, 3, none⟩ = some (.int .i64 9) := (blk_cell BK137.out 3).trans rfl
                              have hcz38_4 : wc.cell? ⟨gb137, 4, none⟩ = some (.int .i64 9) := (blk_cell BK137.out 4).trans rfl
                              have hcz38_5 : wc.cell? ⟨gb137, 5, none⟩ = some (.int .i64 t136) := (blk_cell BK137.out 5).trans rfl
                              have hcz38_6 : wc.cell? ⟨gb137, 6, none⟩ = some (.int .i64 0) := (blk_cell BK137.out 6).trans rfl
                              have hfz38_0 := blk_frozen BK137.out 0
                              have hfz38_1 := blk_frozen BK137.out 1
                              have hfz38_2 := blk_frozen BK137.out 2
                              have hfz38_3 := blk_frozen BK137.out 3
                              have hfz38_4 := blk_frozen BK137.out 4
                              have hfz38_5 := blk_frozen BK137.out 5
                              have hfz38_6 := blk_frozen BK137.out 6
                              go_wp2
                              go_meet
                              case rel => exact ⟨_, (decide ((wrap64 ((wrap64 (x12_1 + (Int.tmod t141 4))) - x13_1)) < t136)), (by first | rfl | (simp; done) | (simp [*]; done)), H', ⟨by have := HK1.out; have := HJ10.out; first | omega | exact Nat.le_refl _⟩, ⟨by (with_reducible repeat (first | refine blk_drewN ?_ _ | refine blk_drew ?_ | refine blk_alloc ?_ _)); exact BK137.out⟩, ⟨by (with_reducible repeat (first | refine blk_drewN ?_ _ | refine blk_drew ?_ | refine blk_alloc ?_ _)); exact BK138.out⟩, ⟨by repeat (first | (with_reducible first | exact HB.out | apply below_alloc | apply pw_below_drewN | apply below_drew1 | refine below_set ?_ GE137.out | refine below_set ?_ GE138.out) | exact HB.out)⟩⟩
                          · rw [if_neg c31] at H
                            have c31b0 : decide (0 < t136) = false := decide_eq_false c31
                            clear c31
                            have H' := Aside0.mk H
                            clear H
                            have hnb39 := NB138_137.out
                            have hnc39 := NB137_138.out
                            have hcz40_0 : wc.cell? ⟨gb138, 0, none⟩ = some (.int .i64 x139000_1) := (blk_cell BK138.out 0).trans rfl
                            have hcz40_1 : wc.cell? ⟨gb138, 1, none⟩ = some (.int .i64 x139001_1) := (blk_cell BK138.out 1).trans rfl
                            have hcz40_2 : wc.cell? ⟨gb138, 2, none⟩ = some (.int .i64 x139002_1) := (blk_cell BK138.out 2).trans rfl
                            have hcz40_3 : wc.cell? ⟨gb138, 3, none⟩ = some (.int .i64 x139003_1) := (blk_cell BK138.out 3).trans rfl
                            have hfz40_0 := blk_frozen BK138.out 0
                            have hfz40_1 := blk_frozen BK138.out 1
                            have hfz40_2 := blk_frozen BK138.out 2
                            have hfz40_3 := blk_frozen BK138.out 3
                            have hcz41_0 : wc.cell? ⟨gb137, 0, none⟩ = some (.int .i64 0) := (blk_cell BK137.out 0).trans rfl
                            have hcz41_1 : wc.cell? ⟨gb137, 1, none⟩ = some (.int .i64 t134) := (blk_cell BK137.out 1).trans rfl
                            have hcz41_2 : wc.cell? ⟨gb137, 2, none⟩ = some (.int .i64 t135) := (blk_cell BK137.out 2).trans rfl
                            have hcz41_3 : wc.cell? ⟨gb137, 3, none⟩ = some (.int .i64 9) := (blk_cell BK137.out 3).trans rfl
                            have hcz41_4 : wc.cell? ⟨gb137, 4, none⟩ = some (.int .i64 9) := (blk_cell BK137.out 4).trans rfl
                            have hcz41_5 : wc.cell? ⟨gb137, 5, none⟩ = some (.int .i64 t136) := (blk_cell BK137.out 5).trans rfl
                            have hcz41_6 : wc.cell? ⟨gb137, 6, none⟩ = some (.int .i64 0) := (blk_cell BK137.out 6).trans rfl
                            have hfz41_0 := blk_frozen BK137.out 0
                            have hfz41_1 := blk_frozen BK137.out 1
                            have hfz41_2 := blk_frozen BK137.out 2
                            have hfz41_3 := blk_frozen BK137.out 3
                            have hfz41_4 := blk_frozen BK137.out 4
                            have hfz41_5 := blk_frozen BK137.out 5
                            have hfz41_6 := blk_frozen BK137.out 6
                            go_wp2
                            go_meet
                            case rel => exact ⟨_, (false), (by first | rfl | (simp; done) | (simp [*]; done)), H', ⟨by have := HK1.out; have := HJ10.out; first | omega | exact Nat.le_refl _⟩, ⟨by (with_reducible repeat (first | refine blk_drewN ?_ _ | refine blk_drew ?_ | refine blk_alloc ?_ _)); exact BK137.out⟩, ⟨by (with_reducible repeat (first | refine blk_drewN ?_ _ | refine blk_drew ?_ | refine blk_alloc ?_ _)); exact BK138.out⟩, ⟨by repeat (first | (with_reducible first | exact HB.out | apply below_alloc | apply pw_below_drewN | apply below_drew1 | refine below_set ?_ GE137.out | refine below_set ?_ GE138.out) | exact HB.out)⟩⟩
                        · rw [if_neg c30] at H
                          have c30b0 : decide ((wrap64 ((wrap64 (x139000_1 + (Int.tmod (wrap64 (Int.tdiv t141 4)) 9))) - 4)) ≤ t134) = false := decide_eq_false c30
                          clear c30
                          have H' := Aside0.mk H
                          clear H
                          have hnb42 := NB138_137.out
                          have hnc42 := NB137_138.out
                          have hcz43_0 : wc.cell? ⟨gb138, 0, none⟩ = some (.int .i64 x139000_1) := (blk_cell BK138.out 0).trans rfl
                          have hcz43_1 : wc.cell? ⟨gb138, 1, none⟩ = some (.int .i64 x139001_1) := (blk_cell BK138.out 1).trans rfl
                          have hcz43_2 : wc.cell? ⟨gb138, 2, none⟩ = some (.int .i64 x139002_1) := (blk_cell BK138.out 2).trans rfl
                          have hcz43_3 : wc.cell? ⟨gb138, 3, none⟩ = some (.int .i64 x139003_1) := (blk_cell BK138.out 3).trans rfl
                          have hfz43_0 := blk_frozen BK138.out 0
                          have hfz43_1 := blk_frozen BK138.out 1
                          have hfz43_2 := blk_frozen BK138.out 2
                          have hfz43_3 := blk_frozen BK138.out 3
                          have hcz44_0 : wc.cell? ⟨gb137, 0, none⟩ = some (.int .i64 0) := (blk_cell BK137.out 0).trans rfl
                          have hcz44_1 : wc.cell? ⟨gb137, 1, none⟩ = some (.int .i64 t134) := (blk_cell BK137.out 1).trans rfl
                          have hcz44_2 : wc.cell? ⟨gb137, 2, none⟩ = some (.int .i64 t135) := (blk_cell BK137.out 2).trans rfl
                          have hcz44_3 : wc.cell? ⟨gb137, 3, none⟩ = some (.int .i64 9) := (blk_cell BK137.out 3).trans rfl
                          have hcz44_4 : wc.cell? ⟨gb137, 4, none⟩ = some (.int .i64 9) := (blk_cell BK137.out 4).trans rfl
                          have hcz44_5 : wc.cell? ⟨gb137, 5, none⟩ = some (.int .i64 t136) := (blk_cell BK137.out 5).trans rfl
                          have hcz44_6 : wc.cell? ⟨gb137, 6, none⟩ = some (.int .i64 0) := (blk_cell BK137.out 6).trans rfl
                          have hfz44_0 := blk_frozen BK137.out 0
                          have hfz44_1 := blk_frozen BK137.out 1
                          have hfz44_2 := blk_frozen BK137.out 2
                          have hfz44_3 := blk_frozen BK137.out 3
                          have hfz44_4 := blk_frozen BK137.out 4
                          have hfz44_5 := blk_frozen BK137.out 5
                          have hfz44_6 := blk_frozen BK137.out 6
                          go_wp2
                          go_meet
                          case rel => exact ⟨_, (false), (by first | rfl | (simp; done) | (simp [*]; done)), H', ⟨by have := HK1.out; have := HJ10.out; first | omega | exact Nat.le_refl _⟩, ⟨by (with_reducible repeat (first | refine blk_drewN ?_ _ | refine blk_drew ?_ | refine blk_alloc ?_ _)); exact BK137.out⟩, ⟨by (with_reducible repeat (first | refine blk_drewN ?_ _ | refine blk_drew ?_ | refine blk_alloc ?_ _)); exact BK138.out⟩, ⟨by repeat (first | (with_reducible first | exact HB.out | apply below_alloc | apply pw_below_drewN | apply below_drew1 | refine below_set ?_ GE137.out | refine below_set ?_ GE138.out) | exact HB.out)⟩⟩
                  case rest =>
                    clear HC20
                    try clear c1
                    try clear p1
                    try clear q1
                    try clear hx1
                    try clear c2
                    try clear p2
                    try clear c3
                    try clear c4
                    try clear p6
                    try clear c11
                    try clear c12
                    try clear c12b0
                    try clear c13
                    try clear c14
                    try clear c14b0
                    try clear p14
                    try clear q14
                    try clear hx14
                    try clear c15
                    try clear c15b0
                    try clear c17
                    try clear c17b0
                    try clear c18
                    try clear c21
                    try clear c23
                    try clear c23b0
                    try clear c24
                    try clear c26
                    try clear c26b0
                    try clear c27
                    try clear c30
                    try clear c30b0
                    try clear c31
                    try clear c31b0
                    try clear c32
                    try clear c32b0
                    try clear c33
                    try clear c36
                    try clear c39
                    try clear c42
                    try clear hcz19_0
                    try clear hcz19_1
                    try clear hcz19_2
                    try clear hcz19_3
                    try clear hcz22_0
                    try clear hcz22_1
                    try clear hcz22_2
                    try clear hcz22_3
                    try clear hcz25_0
                    try clear hcz25_1
                    try clear hcz25_2
                    try clear hcz25_3
                    try clear hcz28_0
                    try clear hcz28_1
                    try clear hcz28_2
                    try clear hcz28_3
                    try clear hcz29_0
                    try clear hcz29_1
                    try clear hcz29_2
                    try clear hcz29_3
                    try clear hcz29_4
                    try clear hcz29_5
                    try clear hcz29_6
                    try clear hcz34_0
                    try clear hcz34_1
                    try clear hcz34_2
                    try clear hcz34_3
                    try clear hcz35_0
                    try clear hcz35_1
                    try clear hcz35_2
                    try clear hcz35_3
                    try clear hcz35_4
                    try clear hcz35_5
                    try clear hcz35_6
                    try clear hcz37_0
                    try clear hcz37_1
                    try clear hcz37_2
                    try clear hcz37_3
                    try clear hcz38_0
                    try clear hcz38_1
                    try clear hcz38_2
                    try clear hcz38_3
                    try clear hcz38_4
                    try clear hcz38_5
                    try clear hcz38_6
                    try clear hcz40_0
                    try clear hcz40_1
                    try clear hcz40_2
                    try clear hcz40_3
                    try clear hcz41_0
                    try clear hcz41_1
                    try clear hcz41_2
                    try clear hcz41_3
                    try clear hcz41_4
                    try clear hcz41_5
                    try clear hcz41_6
                    try clear hcz43_0
                    try clear hcz43_1
                    try clear hcz43_2
                    try clear hcz43_3
                    try clear hcz44_0
                    try clear hcz44_1
                    try clear hcz44_2
                    try clear hcz44_3
                    try clear hcz44_4
                    try clear hcz44_5
                    try clear hcz44_6
                    try clear hcz9_0
                    try clear hcz9_1
                    try clear hcz9_2
                    try clear hcz9_3
                    try clear hcz9_4
                    try clear hcz9_5
                    try clear hcz9_6
                    try clear hfz19_0
                    try clear hfz19_1
                    try clear hfz19_2
                    try clear hfz19_3
                    try clear hfz22_0
                    try clear hfz22_1
                    try clear hfz22_2
                    try clear hfz22_3
                    try clear hfz25_0
                    try clear hfz25_1
                    try clear hfz25_2
                    try clear hfz25_3
                    try clear hfz28_0
                    try clear hfz28_1
                    try clear hfz28_2
                    try clear hfz28_3
                    try clear hfz29_0
                    try clear hfz29_1
                    try clear hfz29_2
                    try clear hfz29_3
                    try clear hfz29_4
                    try clear hfz29_5
                    try clear hfz29_6
                    try clear hfz34_0
                    try clear hfz34_1
                    try clear hfz34_2
                    try clear hfz34_3
                    try clear hfz35_0
                    try clear hfz35_1
                    try clear hfz35_2
                    try clear hfz35_3
                    try clear hfz35_4
                    try clear hfz35_5
                    try clear hfz35_6
                    try clear hfz37_0
                    try clear hfz37_1
                    try clear hfz37_2
                    try clear hfz37_3
                    try clear hfz38_0
                    try clear hfz38_1
                    try clear hfz38_2
                    try clear hfz38_3
                    try clear hfz38_4
                    try clear hfz38_5
                    try clear hfz38_6
                    try clear hfz40_0
                    try clear hfz40_1
                    try clear hfz40_2
                    try clear hfz40_3
                    try clear hfz41_0
                    try clear hfz41_1
                    try clear hfz41_2
                    try clear hfz41_3
                    try clear hfz41_4
                    try clear hfz41_5
                    try clear hfz41_6
                    try clear hfz43_0
                    try clear hfz43_1
                    try clear hfz43_2
                    try clear hfz43_3
                    try clear hfz44_0
                    try clear hfz44_1
                    try clear hfz44_2
                    try clear hfz44_3
                    try clear hfz44_4
                    try clear hfz44_5
                    try clear hfz44_6
                    try clear hfz9_0
                    try clear hfz9_1
                    try clear hfz9_2
                    try clear hfz9_3
                    try clear hfz9_4
                    try clear hfz9_5
                    try clear hfz9_6
                    try clear hx140_0
                    try clear p140
                    try clear p2
                    try clear p6
                    try clear q140
                    obtain ⟨kq, x17_19, rfl, HA, HJ19, BK137, BK138, HB⟩ := hcut
                    cases kq with
                    | zero => exact absurd HA.out (by simp [beguinagelaw22_QuotaGrace.j2])
                    | succ kj19 =>
                      have H := HA.out
                      clear HA
                      simp only [beguinagelaw22_QuotaGrace.j2] at H
                      replace H := Option.bind_eq_some_iff.mp H
                      obtain ⟨t142, A450, H⟩ := H
                      replace H : (if (t142 != x17_19) = true then (some false) else (if x17_19 = true then ((quota_Next.f 0 t134 t135 9 9 t136 0 x139000_1 x139001_1 x139002_1 x139003_1 (wrap64 (x12_1 + (Int.tmod t141 4))) (wrap64 ((wrap64 (x139000_1 + (Int.tmod (wrap64 (Int.tdiv t141 4)) 9))) - 4)) 1).bind fun bt143 => (if (wrap64 ((wrap64 (x139000_1 + (Int.tmod (wrap64 (Int.tdiv t141 4)) 9))) - 4)) ≤ t135 then (if bt143.1 = (wrap64 ((wrap64 (x139000_1 + (Int.tmod (wrap64 (Int.tdiv t141 4)) 9))) - 4)) then (if bt143.1 > t134 then (some false) else (if bt143.2.2.1 = 0 then (if bt143.2.2.2 = 0 then (if bt143.2.1 = 1 then (beguinagelaw22_QuotaGrace.l0 kj19 l3 t134 (wrap64 (x12_1 + (Int.tmod t141 4))) (-1) (wrap64 (x14_1 + 1)) 0 t134 t135 9 9 t136 0 bt143.1 bt143.2.1 bt143.2.2.1 bt143.2.2.2) else (some false)) else (some false)) else (some false))) else (some false)) else (if x13_1 < 0 then (if bt143.1 = (wrap64 ((wrap64 (x139000_1 + (Int.tmod (wrap64 (Int.tdiv t141 4)) 9))) - 4)) then (if bt143.1 > t134 then (some false) else (if bt143.2.2.1 = (wrap64 ((wrap64 (x12_1 + (Int.tmod t141 4))) + 1)) then (if bt143.2.2.2 = 0 then (if bt143.2.1 = 1 then (beguinagelaw22_QuotaGrace.l0 kj19 l3 t134 (wrap64 (x12_1 + (Int.tmod t141 4))) (wrap64 (x12_1 + (Int.tmod t141 4))) (wrap64 (x14_1 + 1)) 0 t134 t135 9 9 t136 0 bt143.1 bt143.2.1 bt143.2.2.1 bt143.2.2.2) else (some false)) else (some false)) else (some false))) else (some false)) else (if bt143.1 = (wrap64 ((wrap64 (x139000_1 + (Int.tmod (wrap64 (Int.tdiv t141 4)) 9))) - 4)) then (if bt143.1 > t134 then (some false) else (if bt143.2.2.1 = (wrap64 (x13_1 + 1)) then (if bt143.2.2.2 = 0 then (if bt143.2.1 = 1 then (beguinagelaw22_QuotaGrace.l0 kj19 l3 t134 (wrap64 (x12_1 + (Int.tmod t141 4))) x13_1 (wrap64 (x14_1 + 1)) 0 t134 t135 9 9 t136 0 bt143.1 bt143.2.1 bt143.2.2.1 bt143.2.2.2) else (some false)) else (some false)) else (some false))) else (some false))))) else (beguinagelaw22_QuotaGrace.l0 kj19 l3 t134 (wrap64 (x12_1 + (Int.tmod t141 4))) x13_1 (wrap64 (x14_1 + 1)) 0 t134 t135 9 9 t136 0 x139000_1 x139001_1 x139002_1 x139003_1))) = some r := H
                      have A45 := Aside0.mk A450
                      clear A450
                      by_cases c46 : (t142 != x17_19) = true
                      · rw [if_pos c46] at H
                        have c46b0 : (t142 != x17_19) = true := c46
                        (try (have c46b1 : decide (t142 = x17_19) = false := by simpa using c46))
                        (try (have c46b2 : (t142 == x17_19) = false := by simpa using c46))
                        (try (have c46b3 : ¬ (t142 = x17_19) := by simpa using c46))
                        clear c46
                        obtain rfl := Option.some.inj H
                        exact absurd hr_.out (by simp)
                      · rw [if_neg c46] at H
                        have c46b0 : (t142 != x17_19) = false := by simpa using c46
                        (try (have c46b1 : decide (t142 = x17_19) = true := by simpa using c46))
                        (try (have c46b2 : (t142 == x17_19) = true := by simpa using c46))
                        clear c46
                        by_cases c47 : x17_19 = true
                        · subst c47
                          have H1 : ((quota_Next.f 0 t134 t135 9 9 t136 0 x139000_1 x139001_1 x139002_1 x139003_1 (wrap64 (x12_1 + (Int.tmod t141 4))) (wrap64 ((wrap64 (x139000_1 + (Int.tmod (wrap64 (Int.tdiv t141 4)) 9))) - 4)) 1).bind fun bt143 => (if (wrap64 ((wrap64 (x139000_1 + (Int.tmod (wrap64 (Int.tdiv t141 4)) 9))) - 4)) ≤ t135 then (if bt143.1 = (wrap64 ((wrap64 (x139000_1 + (Int.tmod (wrap64 (Int.tdiv t141 4)) 9))) - 4)) then (if bt143.1 > t134 then (some false) else (if bt143.2.2.1 = 0 then (if bt143.2.2.2 = 0 then (if bt143.2.1 = 1 then (beguinagelaw22_QuotaGrace.l0 kj19 l3 t134 (wrap64 (x12_1 + (Int.tmod t141 4))) (-1) (wrap64 (x14_1 + 1)) 0 t134 t135 9 9 t136 0 bt143.1 bt143.2.1 bt143.2.2.1 bt143.2.2.2) else (some false)) else (some false)) else (some false))) else (some false)) else (if x13_1 < 0 then (if bt143.1 = (wrap64 ((wrap64 (x139000_1 + (Int.tmod (wrap64 (Int.tdiv t141 4)) 9))) - 4)) then (if bt143.1 > t134 then (some false) else (if bt143.2.2.1 = (wrap64 ((wrap64 (x12_1 + (Int.tmod t141 4))) + 1)) then (if bt143.2.2.2 = 0 then (if bt143.2.1 = 1 then (beguinagelaw22_QuotaGrace.l0 kj19 l3 t134 (wrap64 (x12_1 + (Int.tmod t141 4))) (wrap64 (x12_1 + (Int.tmod t141 4))) (wrap64 (x14_1 + 1)) 0 t134 t135 9 9 t136 0 bt143.1 bt143.2.1 bt143.2.2.1 bt143.2.2.2) else (some false)) else (some false)) else (some false))) else (some false)) else (if bt143.1 = (wrap64 ((wrap64 (x139000_1 + (Int.tmod (wrap64 (Int.tdiv t141 4)) 9))) - 4)) then (if bt143.1 > t134 then (some false) else (if bt143.2.2.1 = (wrap64 (x13_1 + 1)) then (if bt143.2.2.2 = 0 then (if bt143.2.1 = 1 then (beguinagelaw22_QuotaGrace.l0 kj19 l3 t134 (wrap64 (x12_1 + (Int.tmod t141 4))) x13_1 (wrap64 (x14_1 + 1)) 0 t134 t135 9 9 t136 0 bt143.1 bt143.2.1 bt143.2.2.1 bt143.2.2.2) else (some false)) else (some false)) else (some false))) else (some false))))) = some r := by rw [if_pos rfl] at H; exact H
                          clear H
                          have H := H1
                          clear H1
                          replace H := Option.bind_eq_some_iff.mp H
                          obtain ⟨⟨t143, t144, t145, t146⟩, A480, H⟩ := H
                          replace H : (if (wrap64 ((wrap64 (x139000_1 + (Int.tmod (wrap64 (Int.tdiv t141 4)) 9))) - 4)) ≤ t135 then (if t143 = (wrap64 ((wrap64 (x139000_1 + (Int.tmod (wrap64 (Int.tdiv t141 4)) 9))) - 4)) then (if t143 > t134 then (some false) else (if t145 = 0 then (if t146 = 0 then (if t144 = 1 then (beguinagelaw22_QuotaGrace.l0 kj19 l3 t134 (wrap64 (x12_1 + (Int.tmod t141 4))) (-1) (wrap64 (x14_1 + 1)) 0 t134 t135 9 9 t136 0 t143 t144 t145 t146) else (some false)) else (some false)) else (some false))) else (some false)) else (if x13_1 < 0 then (if t143 = (wrap64 ((wrap64 (x139000_1 + (Int.tmod (wrap64 (Int.tdiv t141 4)) 9))) - 4)) then (if t143 > t134 then (some false) else (if t145 = (wrap64 ((wrap64 (x12_1 + (Int.tmod t141 4))) + 1)) then (if t146 = 0 then (if t144 = 1 then (beguinagelaw22_QuotaGrace.l0 kj19 l3 t134 (wrap64 (x12_1 + (Int.tmod t141 4))) (wrap64 (x12_1 + (Int.tmod t141 4))) (wrap64 (x14_1 + 1)) 0 t134 t135 9 9 t136 0 t143 t144 t145 t146) else (some false)) else (some false)) else (some false))) else (some false)) else (if t143 = (wrap64 ((wrap64 (x139000_1 + (Int.tmod (wrap64 (Int.tdiv t141 4)) 9))) - 4)) then (if t143 > t134 then (some false) else (if t145 = (wrap64 (x13_1 + 1)) then (if t146 = 0 then (if t144 = 1 then (beguinagelaw22_QuotaGrace.l0 kj19 l3 t134 (wrap64 (x12_1 + (Int.tmod t141 4))) x13_1 (wrap64 (x14_1 + 1)) 0 t134 t135 9 9 t136 0 t143 t144 t145 t146) else (some false)) else (some false)) else (some false))) else (some false)))) = some r := H
                          have A48 := Aside0.mk A480
                          clear A480
                          by_cases c49 : (wrap64 ((wrap64 (x139000_1 + (Int.tmod (wrap64 (Int.tdiv t141 4)) 9))) - 4)) ≤ t135
                          · rw [if_pos c49] at H
                            have c49b0 : decide ((wrap64 ((wrap64 (x139000_1 + (Int.tmod (wrap64 (Int.tdiv t141 4)) 9))) - 4)) ≤ t135) = true := decide_eq_true c49
                            clear c49
                            by_cases c50 : t143 = (wrap64 ((wrap64 (x139000_1 + (Int.tmod (wrap64 (Int.tdiv t141 4)) 9))) - 4))
                            · rw [if_pos c50] at H
                              have c50b0 : (t143 == (wrap64 ((wrap64 (x139000_1 + (Int.tmod (wrap64 (Int.tdiv t141 4)) 9))) - 4))) = true := beq_iff_eq.mpr c50
                              have c50b1 : (t143 != (wrap64 ((wrap64 (x139000_1 + (Int.tmod (wrap64 (Int.tdiv t141 4)) 9))) - 4))) = false := bne_eq_false_iff_eq.mpr c50
                              clear c50
                              by_cases c51 : t143 > t134
                              · rw [if_pos c51] at H
                                have c51b0 : decide (t134 < t143) = true := decide_eq_true c51
                                clear c51
                                obtain rfl := Option.some.inj H
                                exact absurd hr_.out (by simp)
                              · rw [if_neg c51] at H
                                have c51b0 : decide (t134 < t143) = false := decide_eq_false c51
                                clear c51
                                by_cases c52 : t145 = 0
                                · rw [if_pos c52] at H
                                  have c52b0 : (t145 == 0) = true := beq_iff_eq.mpr c52
                                  have c52b1 : (t145 != 0) = false := bne_eq_false_iff_eq.mpr c52
                                  clear c52
                                  by_cases c53 : t146 = 0
                                  · rw [if_pos c53] at H
                                    have c53b0 : (t146 == 0) = true := beq_iff_eq.mpr c53
                                    have c53b1 : (t146 != 0) = false := bne_eq_false_iff_eq.mpr c53
                                    clear c53
                                    by_cases c54 : t144 = 1
                                    · rw [if_pos c54] at H
                                      have c54b0 : (t144 == 1) = true := beq_iff_eq.mpr c54
                                      have c54b1 : (t144 != 1) = false := bne_eq_false_iff_eq.mpr c54
                                      clear c54
                                      have H' := Aside0.mk H
                                      clear H
                                      have hnb55 := NB137_138.out
                                      have hnc55 := NB138_137.out
                                      have hcz56_0 : wc.cell? ⟨gb137, 0, none⟩ = some (.int .i64 0) := (blk_cell BK137.out 0).trans rfl
                                      have hcz56_1 : wc.cell? ⟨gb137, 1, none⟩ = some (.int .i64 t134) := (blk_cell BK137.out 1).trans rfl
                                      have hcz56_2 : wc.cell? ⟨gb137, 2, none⟩ = some (.int .i64 t135) := (blk_cell BK137.out 2).trans rfl
                                      have hcz56_3 : wc.cell? ⟨gb137, 3, none⟩ = some (.int .i64 9) := (blk_cell BK137.out 3).trans rfl
                                      have hcz56_4 : wc.cell? ⟨gb137, 4, none⟩ = some (.int .i64 9) := (blk_cell BK137.out 4).trans rfl
                                      have hcz56_5 : wc.cell? ⟨gb137, 5, none⟩ = some (.int .i64 t136) := (blk_cell BK137.out 5).trans rfl
                                      have hcz56_6 : wc.cell? ⟨gb137, 6, none⟩ = some (.int .i64 0) := (blk_cell BK137.out 6).trans rfl
                                      have hfz56_0 := blk_frozen BK137.out 0
                                      have hfz56_1 := blk_frozen BK137.out 1
                                      have hfz56_2 := blk_frozen BK137.out 2
                                      have hfz56_3 := blk_frozen BK137.out 3
                                      have hfz56_4 := blk_frozen BK137.out 4
                                      have hfz56_5 := blk_frozen BK137.out 5
                                      have hfz56_6 := blk_frozen BK137.out 6
                                      have hcz57_0 : wc.cell? ⟨gb138, 0, none⟩ = some (.int .i64 x139000_1) := (blk_cell BK138.out 0).trans rfl
                                      have hcz57_1 : wc.cell? ⟨gb138, 1, none⟩ = some (.int .i64 x139001_1) := (blk_cell BK138.out 1).trans rfl
                                      have hcz57_2 : wc.cell? ⟨gb138, 2, none⟩ = some (.int .i64 x139002_1) := (blk_cell BK138.out 2).trans rfl
                                      have hcz57_3 : wc.cell? ⟨gb138, 3, none⟩ = some (.int .i64 x139003_1) := (blk_cell BK138.out 3).trans rfl
                                      have hfz57_0 := blk_frozen BK138.out 0
                                      have hfz57_1 := blk_frozen BK138.out 1
                                      have hfz57_2 := blk_frozen BK138.out 2
                                      have hfz57_3 := blk_frozen BK138.out 3
                                      go_wp2_with (first | ((with_reducible refine gate_callee (f := 29) rfl ?_); refine goesL_ (some 92) rfl rfl Try.func29 (by kernel_rfl) rfl #[.agg #[.int .i64 0, .int .i64 t134, .int .i64 t135, .int .i64 9, .int .i64 9, .int .i64 t136, .int .i64 0], .agg #[.int .i64 x139000_1, .int .i64 x139001_1, .int .i64 x139002_1, .int .i64 x139003_1], .int .i64 (wrap64 (x12_1 + (Int.tmod t141 4))), .int .i64 (wrap64 ((wrap64 (x139000_1 + (Int.tmod (wrap64 (Int.tdiv t141 4)) 9))) - 4)), .int .i64 1] rfl (by (try simp only [List.map_toArray, List.map_cons, List.map_nil]); first | done | rfl | (simp only [List.length_drop, List.length_take]; rfl)) ?_; (with_reducible refine (quota_May.calls 0 t134 t135 9 9 t136 0 x139000_1 x139001_1 x139002_1 x139003_1 (wrap64 (x12_1 + (Int.tmod t141 4))) (wrap64 ((wrap64 (x139000_1 + (Int.tmod (wrap64 (Int.tdiv t141 4)) 9))) - 4)) 1 t142 _ A45.out).mono ?_); rintro e w58 ⟨rfl, hb⟩; refine ⟨_, rfl, ?_⟩; have n0_ := Aside0.mk (blk_below (blk_l BK137.out) hb); have n1_ := Aside0.mk (blk_below (blk_l BK138.out) hb); have n2_ := Aside0.mk (below_step (by repeat (first | (with_reducible first | exact HB.out | apply below_alloc | apply pw_below_drewN | apply below_drew1 | refine below_set ?_ GE137.out | refine below_set ?_ GE138.out) | exact HB.out)) hb); clear BK137; clear BK138; clear HB; have BK137 := n0_; have BK138 := n1_; have HB := n2_; clear n0_ n1_ n2_; (try clear hb); (try clear hb2); (try clear hk); (try clear hi); have hcz59_0 : w58.cell? ⟨gb137, 0, none⟩ = some (.int .i64 0) := (blk_cell BK137.out 0).trans rfl; have hcz59_1 : w58.cell? ⟨gb137, 1, none⟩ = some (.int .i64 t134) := (blk_cell BK137.out 1).trans rfl; have hcz59_2 : w58.cell? ⟨gb137, 2, none⟩ = some (.int .i64 t135) := (blk_cell BK137.out 2).trans rfl; have hcz59_3 : w58.cell? ⟨gb137, 3, none⟩ = some (.int .i64 9) := (blk_cell BK137.out 3).trans rfl; have hcz59_4 : w58.cell? ⟨gb137, 4, none⟩ = some (.int .i64 9) := (blk_cell BK137.out 4).trans rfl; have hcz59_5 : w58.cell? ⟨gb137, 5, none⟩ = some (.int .i64 t136) := (blk_cell BK137.out 5).trans rfl; have hcz59_6 : w58.cell? ⟨gb137, 6, none⟩ = some (.int .i64 0) := (blk_cell BK137.out 6).trans rfl; have hfz59_0 := blk_frozen BK137.out 0; have hfz59_1 := blk_frozen BK137.out 1; have hfz59_2 := blk_frozen BK137.out 2; have hfz59_3 := blk_frozen BK137.out 3; have hfz59_4 := blk_frozen BK137.out 4; have hfz59_5 := blk_frozen BK137.out 5; have hfz59_6 := blk_frozen BK137.out 6; have hcz60_0 : w58.cell? ⟨gb138, 0, none⟩ = some (.int .i64 x139000_1) := (blk_cell BK138.out 0).trans rfl; have hcz60_1 : w58.cell? ⟨gb138, 1, none⟩ = some (.int .i64 x139001_1) := (blk_cell BK138.out 1).trans rfl; have hcz60_2 : w58.cell? ⟨gb138, 2, none⟩ = some (.int .i64 x139002_1) := (blk_cell BK138.out 2).trans rfl; have hcz60_3 : w58.cell? ⟨gb138, 3, none⟩ = some (.int .i64 x139003_1) := (blk_cell BK138.out 3).trans rfl; have hfz60_0 := blk_frozen BK138.out 0; have hfz60_1 := blk_frozen BK138.out 1; have hfz60_2 := blk_frozen BK138.out 2; have hfz60_3 := blk_frozen BK138.out 3) | ((with_reducible refine gate_callee (f := 27) rfl ?_); refine goesL_ (some 101) rfl rfl Try.func27 (by kernel_rfl) rfl #[.agg #[.int .i64 0, .int .i64 t134, .int .i64 t135, .int .i64 9, .int .i64 9, .int .i64 t136, .int .i64 0], .agg #[.int .i64 x139000_1, .int .i64 x139001_1, .int .i64 x139002_1, .int .i64 x139003_1], .int .i64 (wrap64 (x12_1 + (Int.tmod t141 4))), .int .i64 (wrap64 ((wrap64 (x139000_1 + (Int.tmod (wrap64 (Int.tdiv t141 4)) 9))) - 4)), .int .i64 1] rfl (by (try simp only [List.map_toArray, List.map_cons, List.map_nil]); first | done | rfl | (simp only [List.length_drop, List.length_take]; rfl)) ?_; (with_reducible refine (quota_Next.calls 0 t134 t135 9 9 t136 0 x139000_1 x139001_1 x139002_1 x139003_1 (wrap64 (x12_1 + (Int.tmod t141 4))) (wrap64 ((wrap64 (x139000_1 + (Int.tmod (wrap64 (Int.tdiv t141 4)) 9))) - 4)) 1 t143 t144 t145 t146 _ A48.out).mono ?_); rintro e w61 ⟨rfl, hb⟩; refine ⟨_, rfl, ?_⟩; have n0_ := Aside0.mk (blk_below (blk_l BK137.out) hb); have n1_ := Aside0.mk (blk_below (blk_l BK138.out) hb); have n2_ := Aside0.mk (below_step (by repeat (first | (with_reducible first | exact HB.out | apply below_alloc | apply pw_below_drewN | apply below_drew1 | refine below_set ?_ GE137.out | refine below_set ?_ GE138.out) | exact HB.out)) hb); clear BK137; clear BK138; clear HB; have BK137 := n0_; have BK138 := n1_; have HB := n2_; clear n0_ n1_ n2_; (try clear hb); (try clear hb2); (try clear hk); (try clear hi); have hcz62_0 : w61.cell? ⟨gb138, 0, none⟩ = some (.int .i64 x139000_1) := (blk_cell BK138.out 0).trans rfl; have hcz62_1 : w61.cell? ⟨gb138, 1, none⟩ = some (.int .i64 x139001_1) := (blk_cell BK138.out 1).trans rfl; have hcz62_2 : w61.cell? ⟨gb138, 2, none⟩ = some (.int .i64 x139002_1) := (blk_cell BK138.out 2).trans rfl; have hcz62_3 : w61.cell? ⟨gb138, 3, none⟩ = some (.int .i64 x139003_1) := (blk_cell BK138.out 3).trans rfl; have hfz62_0 := blk_frozen BK138.out 0; have hfz62_1 := blk_frozen BK138.out 1; have hfz62_2 := blk_frozen BK138.out 2; have hfz62_3 := blk_frozen BK138.out 3; have hcz63_0 : w61.cell? ⟨gb137, 0, none⟩ = some (.int .i64 0) := (blk_cell BK137.out 0).trans rfl; have hcz63_1 : w61.cell? ⟨gb137, 1, none⟩ = some (.int .i64 t134) := (blk_cell BK137.out 1).trans rfl; have hcz63_2 : w61.cell? ⟨gb137, 2, none⟩ = some (.int .i64 t135) := (blk_cell BK137.out 2).trans rfl; have hcz63_3 : w61.cell? ⟨gb137, 3, none⟩ = some (.int .i64 9) := (blk_cell BK137.out 3).trans rfl; have hcz63_4 : w61.cell? ⟨gb137, 4, none⟩ = some (.int .i64 9) := (blk_cell BK137.out 4).trans rfl; have hcz63_5 : w61.cell? ⟨gb137, 5, none⟩ = some (.int .i64 t136) := (blk_cell BK137.out 5).trans rfl; have hcz63_6 : w61.cell? ⟨gb137, 6, none⟩ = some (.int .i64 0) := (blk_cell BK137.out 6).trans rfl; have hfz63_0 := blk_frozen BK137.out 0; have hfz63_1 := blk_frozen BK137.out 1; have hfz63_2 := blk_frozen BK137.out 2; have hfz63_3 := blk_frozen BK137.out 3; have hfz63_4 := blk_frozen BK137.out 4; have hfz63_5 := blk_frozen BK137.out 5; have hfz63_6 := blk_frozen BK137.out 6))
                                      go_roundg kj19
                                      case measure => have := HK1.out; have := HJ10.out; have := HJ19.out; omega
                                      case rel => exact ⟨((wrap64 (x12_1 + (Int.tmod t141 4)))), ((-1)), (wrap64 (x14_1 + 1)), (t143), (t144), (t145), (t146), (by first | rfl | (simp; done) | (simp [*]; done)), (by first | rfl | (simp; done) | (simp [*]; done)), (by first | rfl | (simp; done) | (simp [*]; done)), H', ⟨by have := HK1.out; have := HJ10.out; have := HJ19.out; omega⟩, ⟨by (with_reducible repeat (first | refine blk_drewN ?_ _ | refine blk_drew ?_ | refine blk_alloc ?_ _)); refine blk_far ?_ NB137_138.out _; (with_reducible repeat (first | refine blk_drewN ?_ _ | refine blk_drew ?_ | refine blk_alloc ?_ _)); refine blk_far ?_ NB137_138.out _; (with_reducible repeat (first | refine blk_drewN ?_ _ | refine blk_drew ?_ | refine blk_alloc ?_ _)); refine blk_far ?_ NB137_138.out _; (with_reducible repeat (first | refine blk_drewN ?_ _ | refine blk_drew ?_ | refine blk_alloc ?_ _)); refine blk_far ?_ NB137_138.out _; (with_reducible repeat (first | refine blk_drewN ?_ _ | refine blk_drew ?_ | refine blk_alloc ?_ _)); exact BK137.out⟩, ⟨by (with_reducible repeat (first | refine blk_drewN ?_ _ | refine blk_drew ?_ | refine blk_alloc ?_ _)); refine blk_put (cs := #[.int .i64 t143, .int .i64 t144, .int .i64 t145, .int .i64 x139003_1]) ?_ 3 _ rfl; (with_reducible repeat (first | refine blk_drewN ?_ _ | refine blk_drew ?_ | refine blk_alloc ?_ _)); refine blk_put (cs := #[.int .i64 t143, .int .i64 t144, .int .i64 x139002_1, .int .i64 x139003_1]) ?_ 2 _ rfl; (with_reducible repeat (first | refine blk_drewN ?_ _ | refine blk_drew ?_ | refine blk_alloc ?_ _)); refine blk_put (cs := #[.int .i64 t143, .int .i64 x139001_1, .int .i64 x139002_1, .int .i64 x139003_1]) ?_ 1 _ rfl; (with_reducible repeat (first | refine blk_drewN ?_ _ | refine blk_drew ?_ | refine blk_alloc ?_ _)); refine blk_put (cs := #[.int .i64 x139000_1, .int .i64 x139001_1, .int .i64 x139002_1, .int .i64 x139003_1]) ?_ 0 _ rfl; (with_reducible repeat (first | refine blk_drewN ?_ _ | refine blk_drew ?_ | refine blk_alloc ?_ _)); exact BK138.out⟩, ⟨by repeat (first | (with_reducible first | exact HB.out | apply below_alloc | apply pw_below_drewN | apply below_drew1 | refine below_set ?_ GE137.out | refine below_set ?_ GE138.out) | exact HB.out)⟩⟩
                                    · rw [if_neg c54] at H
                                      have c54b0 : (t144 == 1) = false := beq_eq_false_iff_ne.mpr c54
                                      have c54b1 : (t144 != 1) = true := bne_iff_ne.mpr c54
                                      obtain rfl := Option.some.inj H
                                      exact absurd hr_.out (by simp)
                                  · rw [if_neg c53] at H
                                    have c53b0 : (t146 == 0) = false := beq_eq_false_iff_ne.mpr c53
                                    have c53b1 : (t146 != 0) = true := bne_iff_ne.mpr c53
                                    obtain rfl := Option.some.inj H
                                    exact absurd hr_.out (by simp)
                                · rw [if_neg c52] at H
                                  have c52b0 : (t145 == 0) = false := beq_eq_false_iff_ne.mpr c52
                                  have c52b1 : (t145 != 0) = true := bne_iff_ne.mpr c52
                                  obtain rfl := Option.some.inj H
                                  exact absurd hr_.out (by simp)
                            · rw [if_neg c50] at H
                              have c50b0 : (t143 == (wrap64 ((wrap64 (x139000_1 + (Int.tmod (wrap64 (Int.tdiv t141 4)) 9))) - 4))) = false := beq_eq_false_iff_ne.mpr c50
                              have c50b1 : (t143 != (wrap64 ((wrap64 (x139000_1 + (Int.tmod (wrap64 (Int.tdiv t141 4)) 9))) - 4))) = true := bne_iff_ne.mpr c50
                              obtain rfl := Option.some.inj H
                              exact absurd hr_.out (by simp)
                          · rw [if_neg c49] at H
                            have c49b0 : decide ((wrap64 ((wrap64 (x139000_1 + (Int.tmod (wrap64 (Int.tdiv t141 4)) 9))) - 4)) ≤ t135) = false := decide_eq_false c49
                            clear c49
                            by_cases c64 : x13_1 < 0
                            · rw [if_pos c64] at H
                              have c64b0 : decide (x13_1 < 0) = true := decide_eq_true c64
                              clear c64
                              by_cases c65 : t143 = (wrap64 ((wrap64 (x139000_1 + (Int.tmod (wrap64 (Int.tdiv t141 4)) 9))) - 4))
                              · rw [if_pos c65] at H
                                have c65b0 : (t143 == (wrap64 ((wrap64 (x139000_1 + (Int.tmod (wrap64 (Int.tdiv t141 4)) 9))) - 4))) = true := beq_iff_eq.mpr c65
                                have c65b1 : (t143 != (wrap64 ((wrap64 (x139000_1 + (Int.tmod (wrap64 (Int.tdiv t141 4)) 9))) - 4))) = false := bne_eq_false_iff_eq.mpr c65
                                clear c65
                                by_cases c66 : t143 > t134
                                · rw [if_pos c66] at H
                                  have c66b0 : decide (t134 < t143) = true := decide_eq_true c66
                                  clear c66
                                  obtain rfl := Option.some.inj H
                                  exact absurd hr_.out (by simp)
                                · rw [if_neg c66] at H
                                  have c66b0 : decide (t134 < t143) = false := decide_eq_false c66
                                  clear c66
                                  by_cases c67 : t145 = (wrap64 ((wrap64 (x12_1 + (Int.tmod t141 4))) + 1))
                                  · rw [if_pos c67] at H
                                    have c67b0 : (t145 == (wrap64 ((wrap64 (x12_1 + (Int.tmod t141 4))) + 1))) = true := beq_iff_eq.mpr c67
                                    have c67b1 : (t145 != (wrap64 ((wrap64 (x12_1 + (Int.tmod t141 4))) + 1))) = false := bne_eq_false_iff_eq.mpr c67
                                    clear c67
                                    by_cases c68 : t146 = 0
                                    · rw [if_pos c68] at H
                                      have c68b0 : (t146 == 0) = true := beq_iff_eq.mpr c68
                                      have c68b1 : (t146 != 0) = false := bne_eq_false_iff_eq.mpr c68
                                      clear c68
                                      by_cases c69 : t144 = 1
                                      · rw [if_pos c69] at H
                                        have c69b0 : (t144 == 1) = true := beq_iff_eq.mpr c69
                                        have c69b1 : (t144 != 1) = false := bne_eq_false_iff_eq.mpr c69
                                        clear c69
                                        have H' := Aside0.mk H
                                        clear H
                                        have hnb70 := NB137_138.out
                                        have hnc70 := NB138_137.out
                                        have hcz71_0 : wc.cell? ⟨gb137, 0, none⟩ = some (.int .i64 0) := (blk_cell BK137.out 0).trans rfl
                                        have hcz71_1 : wc.cell? ⟨gb137, 1, none⟩ = some (.int .i64 t134) := (blk_cell BK137.out 1).trans rfl
                                        have hcz71_2 : wc.cell? ⟨gb137, 2, none⟩ = some (.int .i64 t135) := (blk_cell BK137.out 2).trans rfl
                                        have hcz71_3 : wc.cell? ⟨gb137, 3, none⟩ = some (.int .i64 9) := (blk_cell BK137.out 3).trans rfl
                                        have hcz71_4 : wc.cell? ⟨gb137, 4, none⟩ = some (.int .i64 9) := (blk_cell BK137.out 4).trans rfl
                                        have hcz71_5 : wc.cell? ⟨gb137, 5, none⟩ = some (.int .i64 t136) := (blk_cell BK137.out 5).trans rfl
                                        have hcz71_6 : wc.cell? ⟨gb137, 6, none⟩ = some (.int .i64 0) := (blk_cell BK137.out 6).trans rfl
                                        have hfz71_0 := blk_frozen BK137.out 0
                                        have hfz71_1 := blk_frozen BK137.out 1
                                        have hfz71_2 := blk_frozen BK137.out 2
                                        have hfz71_3 := blk_frozen BK137.out 3
                                        have hfz71_4 := blk_frozen BK137.out 4
                                        have hfz71_5 := blk_frozen BK137.out 5
                                        have hfz71_6 := blk_frozen BK137.out 6
                                        have hcz72_0 : wc.cell? ⟨gb138, 0, none⟩ = some (.int .i64 x139000_1) := (blk_cell BK138.out 0).trans rfl
                                        have hcz72_1 : wc.cell? ⟨gb138, 1, none⟩ = some (.int .i64 x139001_1) := (blk_cell BK138.out 1).trans rfl
                                        have hcz72_2 : wc.cell? ⟨gb138, 2, none⟩ = some (.int .i64 x139002_1) := (blk_cell BK138.out 2).trans rfl
                                        have hcz72_3 : wc.cell? ⟨gb138, 3, none⟩ = some (.int .i64 x139003_1) := (blk_cell BK138.out 3).trans rfl
                                        have hfz72_0 := blk_frozen BK138.out 0
                                        have hfz72_1 := blk_frozen BK138.out 1
                                        have hfz72_2 := blk_frozen BK138.out 2
                                        have hfz72_3 := blk_frozen BK138.out 3
                                        go_wp2_with (first | ((with_reducible refine gate_callee (f := 29) rfl ?_); refine goesL_ (some 92) rfl rfl Try.func29 (by kernel_rfl) rfl #[.agg #[.int .i64 0, .int .i64 t134, .int .i64 t135, .int .i64 9, .int .i64 9, .int .i64 t136, .int .i64 0], .agg #[.int .i64 x139000_1, .int .i64 x139001_1, .int .i64 x139002_1, .int .i64 x139003_1], .int .i64 (wrap64 (x12_1 + (Int.tmod t141 4))), .int .i64 (wrap64 ((wrap64 (x139000_1 + (Int.tmod (wrap64 (Int.tdiv t141 4)) 9))) - 4)), .int .i64 1] rfl (by (try simp only [List.map_toArray, List.map_cons, List.map_nil]); first | done | rfl | (simp only [List.length_drop, List.length_take]; rfl)) ?_; (with_reducible refine (quota_May.calls 0 t134 t135 9 9 t136 0 x139000_1 x139001_1 x139002_1 x139003_1 (wrap64 (x12_1 + (Int.tmod t141 4))) (wrap64 ((wrap64 (x139000_1 + (Int.tmod (wrap64 (Int.tdiv t141 4)) 9))) - 4)) 1 t142 _ A45.out).mono ?_); rintro e w73 ⟨rfl, hb⟩; refine ⟨_, rfl, ?_⟩; have n0_ := Aside0.mk (blk_below (blk_l BK137.out) hb); have n1_ := Aside0.mk (blk_below (blk_l BK138.out) hb); have n2_ := Aside0.mk (below_step (by repeat (first | (with_reducible first | exact HB.out | apply below_alloc | apply pw_below_drewN | apply below_drew1 | refine below_set ?_ GE137.out | refine below_set ?_ GE138.out) | exact HB.out)) hb); clear BK137; clear BK138; clear HB; have BK137 := n0_; have BK138 := n1_; have HB := n2_; clear n0_ n1_ n2_; (try clear hb); (try clear hb2); (try clear hk); (try clear hi); have hcz74_0 : w73.cell? ⟨gb137, 0, none⟩ = some (.int .i64 0) := (blk_cell BK137.out 0).trans rfl; have hcz74_1 : w73.cell? ⟨gb137, 1, none⟩ = some (.int .i64 t134) := (blk_cell BK137.out 1).trans rfl; have hcz74_2 : w73.cell? ⟨gb137, 2, none⟩ = some (.int .i64 t135) := (blk_cell BK137.out 2).trans rfl; have hcz74_3 : w73.cell? ⟨gb137, 3, none⟩ = some (.int .i64 9) := (blk_cell BK137.out 3).trans rfl; have hcz74_4 : w73.cell? ⟨gb137, 4, none⟩ = some (.int .i64 9) := (blk_cell BK137.out 4).trans rfl; have hcz74_5 : w73.cell? ⟨gb137, 5, none⟩ = some (.int .i64 t136) := (blk_cell BK137.out 5).trans rfl; have hcz74_6 : w73.cell? ⟨gb137, 6, none⟩ = some (.int .i64 0) := (blk_cell BK137.out 6).trans rfl; have hfz74_0 := blk_frozen BK137.out 0; have hfz74_1 := blk_frozen BK137.out 1; have hfz74_2 := blk_frozen BK137.out 2; have hfz74_3 := blk_frozen BK137.out 3; have hfz74_4 := blk_frozen BK137.out 4; have hfz74_5 := blk_frozen BK137.out 5; have hfz74_6 := blk_frozen BK137.out 6; have hcz75_0 : w73.cell? ⟨gb138, 0, none⟩ = some (.int .i64 x139000_1) := (blk_cell BK138.out 0).trans rfl; have hcz75_1 : w73.cell? ⟨gb138, 1, none⟩ = some (.int .i64 x139001_1) := (blk_cell BK138.out 1).trans rfl; have hcz75_2 : w73.cell? ⟨gb138, 2, none⟩ = some (.int .i64 x139002_1) := (blk_cell BK138.out 2).trans rfl; have hcz75_3 : w73.cell? ⟨gb138, 3, none⟩ = some (.int .i64 x139003_1) := (blk_cell BK138.out 3).trans rfl; have hfz75_0 := blk_frozen BK138.out 0; have hfz75_1 := blk_frozen BK138.out 1; have hfz75_2 := blk_frozen BK138.out 2; have hfz75_3 := blk_frozen BK138.out 3) | ((with_reducible refine gate_callee (f := 27) rfl ?_); refine goesL_ (some 101) rfl rfl Try.func27 (by kernel_rfl) rfl #[.agg #[.int .i64 0, .int .i64 t134, .int .i64 t135, .int .i64 9, .int .i64 9, .int .i64 t136, .int .i64 0], .agg #[.int .i64 x139000_1, .int .i64 x139001_1, .int .i64 x139002_1, .int .i64 x139003_1], .int .i64 (wrap64 (x12_1 + (Int.tmod t141 4))), .int .i64 (wrap64 ((wrap64 (x139000_1 + (Int.tmod (wrap64 (Int.tdiv t141 4)) 9))) - 4)), .int .i64 1] rfl (by (try simp only [List.map_toArray, List.map_cons, List.map_nil]); first | done | rfl | (simp only [List.length_drop, List.length_take]; rfl)) ?_; (with_reducible refine (quota_Next.calls 0 t134 t135 9 9 t136 0 x139000_1 x139001_1 x139002_1 x139003_1 (wrap64 (x12_1 + (Int.tmod t141 4))) (wrap64 ((wrap64 (x139000_1 + (Int.tmod (wrap64 (Int.tdiv t141 4)) 9))) - 4)) 1 t143 t144 t145 t146 _ A48.out).mono ?_); rintro e w76 ⟨rfl, hb⟩; refine ⟨_, rfl, ?_⟩; have n0_ := Aside0.mk (blk_below (blk_l BK137.out) hb); have n1_ := Aside0.mk (blk_below (blk_l BK138.out) hb); have n2_ := Aside0.mk (below_step (by repeat (first | (with_reducible first | exact HB.out | apply below_alloc | apply pw_below_drewN | apply below_drew1 | refine below_set ?_ GE137.out | refine below_set ?_ GE138.out) | exact HB.out)) hb); clear BK137; clear BK138; clear HB; have BK137 := n0_; have BK138 := n1_; have HB := n2_; clear n0_ n1_ n2_; (try clear hb); (try clear hb2); (try clear hk); (try clear hi); have hcz77_0 : w76.cell? ⟨gb138, 0, none⟩ = some (.int .i64 x139000_1) := (blk_cell BK138.out 0).trans rfl; have hcz77_1 : w76.cell? ⟨gb138, 1, none⟩ = some (.int .i64 x139001_1) := (blk_cell BK138.out 1).trans rfl; have hcz77_2 : w76.cell? ⟨gb138, 2, none⟩ = some (.int .i64 x139002_1) := (blk_cell BK138.out 2).trans rfl; have hcz77_3 : w76.cell? ⟨gb138, 3, none⟩ = some (.int .i64 x139003_1) := (blk_cell BK138.out 3).trans rfl; have hfz77_0 := blk_frozen BK138.out 0; have hfz77_1 := blk_frozen BK138.out 1; have hfz77_2 := blk_frozen BK138.out 2; have hfz77_3 := blk_frozen BK138.out 3; have hcz78_0 : w76.cell? ⟨gb137, 0, none⟩ = some (.int .i64 0) := (blk_cell BK137.out 0).trans rfl; have hcz78_1 : w76.cell? ⟨gb137, 1, none⟩ = some (.int .i64 t134) := (blk_cell BK137.out 1).trans rfl; have hcz78_2 : w76.cell? ⟨gb137, 2, none⟩ = some (.int .i64 t135) := (blk_cell BK137.out 2).trans rfl; have hcz78_3 : w76.cell? ⟨gb137, 3, none⟩ = some (.int .i64 9) := (blk_cell BK137.out 3).trans rfl; have hcz78_4 : w76.cell? ⟨gb137, 4, none⟩ = some (.int .i64 9) := (blk_cell BK137.out 4).trans rfl; have hcz78_5 : w76.cell? ⟨gb137, 5, none⟩ = some (.int .i64 t136) := (blk_cell BK137.out 5).trans rfl; have hcz78_6 : w76.cell? ⟨gb137, 6, none⟩ = some (.int .i64 0) := (blk_cell BK137.out 6).trans rfl; have hfz78_0 := blk_frozen BK137.out 0; have hfz78_1 := blk_frozen BK137.out 1; have hfz78_2 := blk_frozen BK137.out 2; have hfz78_3 := blk_frozen BK137.out 3; have hfz78_4 := blk_frozen BK137.out 4; have hfz78_5 := blk_frozen BK137.out 5; have hfz78_6 := blk_frozen BK137.out 6))
                                        go_roundg kj19
                                        case measure => have := HK1.out; have := HJ10.out; have := HJ19.out; omega
                                        case rel => exact ⟨((wrap64 (x12_1 + (Int.tmod t141 4)))), ((wrap64 (x12_1 + (Int.tmod t141 4)))), (wrap64 (x14_1 + 1)), (t143), (t144), (t145), (t146), (by first | rfl | (simp; done) | (simp [*]; done)), (by first | rfl | (simp; done) | (simp [*]; done)), (by first | rfl | (simp; done) | (simp [*]; done)), H', ⟨by have := HK1.out; have := HJ10.out; have := HJ19.out; omega⟩, ⟨by (with_reducible repeat (first | refine blk_drewN ?_ _ | refine blk_drew ?_ | refine blk_alloc ?_ _)); refine blk_far ?_ NB137_138.out _; (with_reducible repeat (first | refine blk_drewN ?_ _ | refine blk_drew ?_ | refine blk_alloc ?_ _)); refine blk_far ?_ NB137_138.out _; (with_reducible repeat (first | refine blk_drewN ?_ _ | refine blk_drew ?_ | refine blk_alloc ?_ _)); refine blk_far ?_ NB137_138.out _; (with_reducible repeat (first | refine blk_drewN ?_ _ | refine blk_drew ?_ | refine blk_alloc ?_ _)); refine blk_far ?_ NB137_138.out _; (with_reducible repeat (first | refine blk_drewN ?_ _ | refine blk_drew ?_ | refine blk_alloc ?_ _)); exact BK137.out⟩, ⟨by (with_reducible repeat (first | refine blk_drewN ?_ _ | refine blk_drew ?_ | refine blk_alloc ?_ _)); refine blk_put (cs := #[.int .i64 t143, .int .i64 t144, .int .i64 t145, .int .i64 x139003_1]) ?_ 3 _ rfl; (with_reducible repeat (first | refine blk_drewN ?_ _ | refine blk_drew ?_ | refine blk_alloc ?_ _)); refine blk_put (cs := #[.int .i64 t143, .int .i64 t144, .int .i64 x139002_1, .int .i64 x139003_1]) ?_ 2 _ rfl; (with_reducible repeat (first | refine blk_drewN ?_ _ | refine blk_drew ?_ | refine blk_alloc ?_ _)); refine blk_put (cs := #[.int .i64 t143, .int .i64 x139001_1, .int .i64 x139002_1, .int .i64 x139003_1]) ?_ 1 _ rfl; (with_reducible repeat (first | refine blk_drewN ?_ _ | refine blk_drew ?_ | refine blk_alloc ?_ _)); refine blk_put (cs := #[.int .i64 x139000_1, .int .i64 x139001_1, .int .i64 x139002_1, .int .i64 x139003_1]) ?_ 0 _ rfl; (with_reducible repeat (first | refine blk_drewN ?_ _ | refine blk_drew ?_ | refine blk_alloc ?_ _)); exact BK138.out⟩, ⟨by repeat (first | (with_reducible first | exact HB.out | apply below_alloc | apply pw_below_drewN | apply below_drew1 | refine below_set ?_ GE137.out | refine below_set ?_ GE138.out) | exact HB.out)⟩⟩
                                      · rw [if_neg c69] at H
                                        have c69b0 : (t144 == 1) = false := beq_eq_false_iff_ne.mpr c69
                                        have c69b1 : (t144 != 1) = true := bne_iff_ne.mpr c69
                                        obtain rfl := Option.some.inj H
                                        exact absurd hr_.out (by simp)
                                    · rw [if_neg c68] at H
                                      have c68b0 : (t146 == 0) = false := beq_eq_false_iff_ne.mpr c68
                                      have c68b1 : (t146 != 0) = true := bne_iff_ne.mpr c68
                                      obtain rfl := Option.some.inj H
                                      exact absurd hr_.out (by simp)
                                  · rw [if_neg c67] at H
                                    have c67b0 : (t145 == (wrap64 ((wrap64 (x12_1 + (Int.tmod t141 4))) + 1))) = false := beq_eq_false_iff_ne.mpr c67
                                    have c67b1 : (t145 != (wrap64 ((wrap64 (x12_1 + (Int.tmod t141 4))) + 1))) = true := bne_iff_ne.mpr c67
                                    obtain rfl := Option.some.inj H
                                    exact absurd hr_.out (by simp)
                              · rw [if_neg c65] at H
                                have c65b0 : (t143 == (wrap64 ((wrap64 (x139000_1 + (Int.tmod (wrap64 (Int.tdiv t141 4)) 9))) - 4))) = false := beq_eq_false_iff_ne.mpr c65
                                have c65b1 : (t143 != (wrap64 ((wrap64 (x139000_1 + (Int.tmod (wrap64 (Int.tdiv t141 4)) 9))) - 4))) = true := bne_iff_ne.mpr c65
                                obtain rfl := Option.some.inj H
                                exact absurd hr_.out (by simp)
                            · rw [if_neg c64] at H
                              have c64b0 : decide (x13_1 < 0) = false := decide_eq_false c64
                              clear c64
                              by_cases c79 : t143 = (wrap64 ((wrap64 (x139000_1 + (Int.tmod (wrap64 (Int.tdiv t141 4)) 9))) - 4))
                              · rw [if_pos c79] at H
                                have c79b0 : (t143 == (wrap64 ((wrap64 (x139000_1 + (Int.tmod (wrap64 (Int.tdiv t141 4)) 9))) - 4))) = true := beq_iff_eq.mpr c79
                                have c79b1 : (t143 != (wrap64 ((wrap64 (x139000_1 + (Int.tmod (wrap64 (Int.tdiv t141 4)) 9))) - 4))) = false := bne_eq_false_iff_eq.mpr c79
                                clear c79
                                by_cases c80 : t143 > t134
                                · rw [if_pos c80] at H
                                  have c80b0 : decide (t134 < t143) = true := decide_eq_true c80
                                  clear c80
                                  obtain rfl := Option.some.inj H
                                  exact absurd hr_.out (by simp)
                                · rw [if_neg c80] at H
                                  have c80b0 : decide (t134 < t143) = false := decide_eq_false c80
                                  clear c80
                                  by_cases c81 : t145 = (wrap64 (x13_1 + 1))
                                  · rw [if_pos c81] at H
                                    have c81b0 : (t145 == (wrap64 (x13_1 + 1))) = true := beq_iff_eq.mpr c81
                                    have c81b1 : (t145 != (wrap64 (x13_1 + 1))) = false := bne_eq_false_iff_eq.mpr c81
                                    clear c81
                                    by_cases c82 : t146 = 0
                                    · rw [if_pos c82] at H
                                      have c82b0 : (t146 == 0) = true := beq_iff_eq.mpr c82
                                      have c82b1 : (t146 != 0) = false := bne_eq_false_iff_eq.mpr c82
                                      clear c82
                                      by_cases c83 : t144 = 1
                                      · rw [if_pos c83] at H
                                        have c83b0 : (t144 == 1) = true := beq_iff_eq.mpr c83
                                        have c83b1 : (t144 != 1) = false := bne_eq_false_iff_eq.mpr c83
                                        clear c83
                                        have H' := Aside0.mk H
                                        clear H
                                        have hnb84 := NB137_138.out
                                        have hnc84 := NB138_137.out
                                        have hcz85_0 : wc.cell? ⟨gb137, 0, none⟩ = some (.int .i64 0) := (blk_cell BK137.out 0).trans rfl
                                        have hcz85_1 : wc.cell? ⟨gb137, 1, none⟩ = some (.int .i64 t134) := (blk_cell BK137.out 1).trans rfl
                                        have hcz85_2 : wc.cell? ⟨gb137, 2, none⟩ = some (.int .i64 t135) := (blk_cell BK137.out 2).trans rfl
                                        have hcz85_3 : wc.cell? ⟨gb137, 3, none⟩ = some (.int .i64 9) := (blk_cell BK137.out 3).trans rfl
                                        have hcz85_4 : wc.cell? ⟨gb137, 4, none⟩ = some (.int .i64 9) := (blk_cell BK137.out 4).trans rfl
                                        have hcz85_5 : wc.cell? ⟨gb137, 5, none⟩ = some (.int .i64 t136) := (blk_cell BK137.out 5).trans rfl
                                        have hcz85_6 : wc.cell? ⟨gb137, 6, none⟩ = some (.int .i64 0) := (blk_cell BK137.out 6).trans rfl
                                        have hfz85_0 := blk_frozen BK137.out 0
                                        have hfz85_1 := blk_frozen BK137.out 1
                                        have hfz85_2 := blk_frozen BK137.out 2
                                        have hfz85_3 := blk_frozen BK137.out 3
                                        have hfz85_4 := blk_frozen BK137.out 4
                                        have hfz85_5 := blk_frozen BK137.out 5
                                        have hfz85_6 := blk_frozen BK137.out 6
                                        have hcz86_0 : wc.cell? ⟨gb138, 0, none⟩ = some (.int .i64 x139000_1) := (blk_cell BK138.out 0).trans rfl
                                        have hcz86_1 : wc.cell? ⟨gb138, 1, none⟩ = some (.int .i64 x139001_1) := (blk_cell BK138.out 1).trans rfl
                                        have hcz86_2 : wc.cell? ⟨gb138, 2, none⟩ = some (.int .i64 x139002_1) := (blk_cell BK138.out 2).trans rfl
                                        have hcz86_3 : wc.cell? ⟨gb138, 3, none⟩ = some (.int .i64 x139003_1) := (blk_cell BK138.out 3).trans rfl
                                        have hfz86_0 := blk_frozen BK138.out 0
                                        have hfz86_1 := blk_frozen BK138.out 1
                                        have hfz86_2 := blk_frozen BK138.out 2
                                        have hfz86_3 := blk_frozen BK138.out 3
                                        go_wp2_with (first | ((with_reducible refine gate_callee (f := 29) rfl ?_); refine goesL_ (some 92) rfl rfl Try.func29 (by kernel_rfl) rfl #[.agg #[.int .i64 0, .int .i64 t134, .int .i64 t135, .int .i64 9, .int .i64 9, .int .i64 t136, .int .i64 0], .agg #[.int .i64 x139000_1, .int .i64 x139001_1, .int .i64 x139002_1, .int .i64 x139003_1], .int .i64 (wrap64 (x12_1 + (Int.tmod t141 4))), .int .i64 (wrap64 ((wrap64 (x139000_1 + (Int.tmod (wrap64 (Int.tdiv t141 4)) 9))) - 4)), .int .i64 1] rfl (by (try simp only [List.map_toArray, List.map_cons, List.map_nil]); first | done | rfl | (simp only [List.length_drop, List.length_take]; rfl)) ?_; (with_reducible refine (quota_May.calls 0 t134 t135 9 9 t136 0 x139000_1 x139001_1 x139002_1 x139003_1 (wrap64 (x12_1 + (Int.tmod t141 4))) (wrap64 ((wrap64 (x139000_1 + (Int.tmod (wrap64 (Int.tdiv t141 4)) 9))) - 4)) 1 t142 _ A45.out).mono ?_); rintro e w87 ⟨rfl, hb⟩; refine ⟨_, rfl, ?_⟩; have n0_ := Aside0.mk (blk_below (blk_l BK137.out) hb); have n1_ := Aside0.mk (blk_below (blk_l BK138.out) hb); have n2_ := Aside0.mk (below_step (by repeat (first | (with_reducible first | exact HB.out | apply below_alloc | apply pw_below_drewN | apply below_drew1 | refine below_set ?_ GE137.out | refine below_set ?_ GE138.out) | exact HB.out)) hb); clear BK137; clear BK138; clear HB; have BK137 := n0_; have BK138 := n1_; have HB := n2_; clear n0_ n1_ n2_; (try clear hb); (try clear hb2); (try clear hk); (try clear hi); have hcz88_0 : w87.cell? ⟨gb137, 0, none⟩ = some (.int .i64 0) := (blk_cell BK137.out 0).trans rfl; have hcz88_1 : w87.cell? ⟨gb137, 1, none⟩ = some (.int .i64 t134) := (blk_cell BK137.out 1).trans rfl; have hcz88_2 : w87.cell? ⟨gb137, 2, none⟩ = some (.int .i64 t135) := (blk_cell BK137.out 2).trans rfl; have hcz88_3 : w87.cell? ⟨gb137, 3, none⟩ = some (.int .i64 9) := (blk_cell BK137.out 3).trans rfl; have hcz88_4 : w87.cell? ⟨gb137, 4, none⟩ = some (.int .i64 9) := (blk_cell BK137.out 4).trans rfl; have hcz88_5 : w87.cell? ⟨gb137, 5, none⟩ = some (.int .i64 t136) := (blk_cell BK137.out 5).trans rfl; have hcz88_6 : w87.cell? ⟨gb137, 6, none⟩ = some (.int .i64 0) := (blk_cell BK137.out 6).trans rfl; have hfz88_0 := blk_frozen BK137.out 0; have hfz88_1 := blk_frozen BK137.out 1; have hfz88_2 := blk_frozen BK137.out 2; have hfz88_3 := blk_frozen BK137.out 3; have hfz88_4 := blk_frozen BK137.out 4; have hfz88_5 := blk_frozen BK137.out 5; have hfz88_6 := blk_frozen BK137.out 6; have hcz89_0 : w87.cell? ⟨gb138, 0, none⟩ = some (.int .i64 x139000_1) := (blk_cell BK138.out 0).trans rfl; have hcz89_1 : w87.cell? ⟨gb138, 1, none⟩ = some (.int .i64 x139001_1) := (blk_cell BK138.out 1).trans rfl; have hcz89_2 : w87.cell? ⟨gb138, 2, none⟩ = some (.int .i64 x139002_1) := (blk_cell BK138.out 2).trans rfl; have hcz89_3 : w87.cell? ⟨gb138, 3, none⟩ = some (.int .i64 x139003_1) := (blk_cell BK138.out 3).trans rfl; have hfz89_0 := blk_frozen BK138.out 0; have hfz89_1 := blk_frozen BK138.out 1; have hfz89_2 := blk_frozen BK138.out 2; have hfz89_3 := blk_frozen BK138.out 3) | ((with_reducible refine gate_callee (f := 27) rfl ?_); refine goesL_ (some 101) rfl rfl Try.func27 (by kernel_rfl) rfl #[.agg #[.int .i64 0, .int .i64 t134, .int .i64 t135, .int .i64 9, .int .i64 9, .int .i64 t136, .int .i64 0], .agg #[.int .i64 x139000_1, .int .i64 x139001_1, .int .i64 x139002_1, .int .i64 x139003_1], .int .i64 (wrap64 (x12_1 + (Int.tmod t141 4))), .int .i64 (wrap64 ((wrap64 (x139000_1 + (Int.tmod (wrap64 (Int.tdiv t141 4)) 9))) - 4)), .int .i64 1] rfl (by (try simp only [List.map_toArray, List.map_cons, List.map_nil]); first | done | rfl | (simp only [List.length_drop, List.length_take]; rfl)) ?_; (with_reducible refine (quota_Next.calls 0 t134 t135 9 9 t136 0 x139000_1 x139001_1 x139002_1 x139003_1 (wrap64 (x12_1 + (Int.tmod t141 4))) (wrap64 ((wrap64 (x139000_1 + (Int.tmod (wrap64 (Int.tdiv t141 4)) 9))) - 4)) 1 t143 t144 t145 t146 _ A48.out).mono ?_); rintro e w90 ⟨rfl, hb⟩; refine ⟨_, rfl, ?_⟩; have n0_ := Aside0.mk (blk_below (blk_l BK137.out) hb); have n1_ := Aside0.mk (blk_below (blk_l BK138.out) hb); have n2_ := Aside0.mk (below_step (by repeat (first | (with_reducible first | exact HB.out | apply below_alloc | apply pw_below_drewN | apply below_drew1 | refine below_set ?_ GE137.out | refine below_set ?_ GE138.out) | exact HB.out)) hb); clear BK137; clear BK138; clear HB; have BK137 := n0_; have BK138 := n1_; have HB := n2_; clear n0_ n1_ n2_; (try clear hb); (try clear hb2); (try clear hk); (try clear hi); have hcz91_0 : w90.cell? ⟨gb138, 0, none⟩ = some (.int .i64 x139000_1) := (blk_cell BK138.out 0).trans rfl; have hcz91_1 : w90.cell? ⟨gb138, 1, none⟩ = some (.int .i64 x139001_1) := (blk_cell BK138.out 1).trans rfl; have hcz91_2 : w90.cell? ⟨gb138, 2, none⟩ = some (.int .i64 x139002_1) := (blk_cell BK138.out 2).trans rfl; have hcz91_3 : w90.cell? ⟨gb138, 3, none⟩ = some (.int .i64 x139003_1) := (blk_cell BK138.out 3).trans rfl; have hfz91_0 := blk_frozen BK138.out 0; have hfz91_1 := blk_frozen BK138.out 1; have hfz91_2 := blk_frozen BK138.out 2; have hfz91_3 := blk_frozen BK138.out 3; have hcz92_0 : w90.cell? ⟨gb137, 0, none⟩ = some (.int .i64 0) := (blk_cell BK137.out 0).trans rfl; have hcz92_1 : w90.cell? ⟨gb137, 1, none⟩ = some (.int .i64 t134) := (blk_cell BK137.out 1).trans rfl; have hcz92_2 : w90.cell? ⟨gb137, 2, none⟩ = some (.int .i64 t135) := (blk_cell BK137.out 2).trans rfl; have hcz92_3 : w90.cell? ⟨gb137, 3, none⟩ = some (.int .i64 9) := (blk_cell BK137.out 3).trans rfl; have hcz92_4 : w90.cell? ⟨gb137, 4, none⟩ = some (.int .i64 9) := (blk_cell BK137.out 4).trans rfl; have hcz92_5 : w90.cell? ⟨gb137, 5, none⟩ = some (.int .i64 t136) := (blk_cell BK137.out 5).trans rfl; have hcz92_6 : w90.cell? ⟨gb137, 6, none⟩ = some (.int .i64 0) := (blk_cell BK137.out 6).trans rfl; have hfz92_0 := blk_frozen BK137.out 0; have hfz92_1 := blk_frozen BK137.out 1; have hfz92_2 := blk_frozen BK137.out 2; have hfz92_3 := blk_frozen BK137.out 3; have hfz92_4 := blk_frozen BK137.out 4; have hfz92_5 := blk_frozen BK137.out 5; have hfz92_6 := blk_frozen BK137.out 6))
                                        go_roundg kj19
                                        case measure => have := HK1.out; have := HJ10.out; have := HJ19.out; omega
                                        case rel => exact ⟨((wrap64 (x12_1 + (Int.tmod t141 4)))), (x13_1), (wrap64 (x14_1 + 1)), (t143), (t144), (t145), (t146), (by first | rfl | (simp; done) | (simp [*]; done)), (by first | rfl | (simp; done) | (simp [*]; done)), (by first | rfl | (simp; done) | (simp [*]; done)), H', ⟨by have := HK1.out; have := HJ10.out; have := HJ19.out; omega⟩, ⟨by (with_reducible repeat (first | refine blk_drewN ?_ _ | refine blk_drew ?_ | refine blk_alloc ?_ _)); refine blk_far ?_ NB137_138.out _; (with_reducible repeat (first | refine blk_drewN ?_ _ | refine blk_drew ?_ | refine blk_alloc ?_ _)); refine blk_far ?_ NB137_138.out _; (with_reducible repeat (first | refine blk_drewN ?_ _ | refine blk_drew ?_ | refine blk_alloc ?_ _)); refine blk_far ?_ NB137_138.out _; (with_reducible repeat (first | refine blk_drewN ?_ _ | refine blk_drew ?_ | refine blk_alloc ?_ _)); refine blk_far ?_ NB137_138.out _; (with_reducible repeat (first | refine blk_drewN ?_ _ | refine blk_drew ?_ | refine blk_alloc ?_ _)); exact BK137.out⟩, ⟨by (with_reducible repeat (first | refine blk_drewN ?_ _ | refine blk_drew ?_ | refine blk_alloc ?_ _)); refine blk_put (cs := #[.int .i64 t143, .int .i64 t144, .int .i64 t145, .int .i64 x139003_1]) ?_ 3 _ rfl; (with_reducible repeat (first | refine blk_drewN ?_ _ | refine blk_drew ?_ | refine blk_alloc ?_ _)); refine blk_put (cs := #[.int .i64 t143, .int .i64 t144, .int .i64 x139002_1, .int .i64 x139003_1]) ?_ 2 _ rfl; (with_reducible repeat (first | refine blk_drewN ?_ _ | refine blk_drew ?_ | refine blk_alloc ?_ _)); refine blk_put (cs := #[.int .i64 t143, .int .i64 x139001_1, .int .i64 x139002_1, .int .i64 x139003_1]) ?_ 1 _ rfl; (with_reducible repeat (first | refine blk_drewN ?_ _ | refine blk_drew ?_ | refine blk_alloc ?_ _)); refine blk_put (cs := #[.int .i64 x139000_1, .int .i64 x139001_1, .int .i64 x139002_1, .int .i64 x139003_1]) ?_ 0 _ rfl; (with_reducible repeat (first | refine blk_drewN ?_ _ | refine blk_drew ?_ | refine blk_alloc ?_ _)); exact BK138.out⟩, ⟨by repeat (first | (with_reducible first | exact HB.out | apply below_alloc | apply pw_below_drewN | apply below_drew1 | refine below_set ?_ GE137.out | refine below_set ?_ GE138.out) | exact HB.out)⟩⟩
                                      · rw [if_neg c83] at H
                                        have c83b0 : (t144 == 1) = false := beq_eq_false_iff_ne.mpr c83
                                        have c83b1 : (t144 != 1) = true := bne_iff_ne.mpr c83
                                        obtain rfl := Option.some.inj H
                                        exact absurd hr_.out (by simp)
                                    · rw [if_neg c82] at H
                                      have c82b0 : (t146 == 0) = false := beq_eq_false_iff_ne.mpr c82
                                      have c82b1 : (t146 != 0) = true := bne_iff_ne.mpr c82
                                      obtain rfl := Option.some.inj H
                                      exact absurd hr_.out (by simp)
                                  · rw [if_neg c81] at H
                                    have c81b0 : (t145 == (wrap64 (x13_1 + 1))) = false := beq_eq_false_iff_ne.mpr c81
                                    have c81b1 : (t145 != (wrap64 (x13_1 + 1))) = true := bne_iff_ne.mpr c81
                                    obtain rfl := Option.some.inj H
                                    exact absurd hr_.out (by simp)
                              · rw [if_neg c79] at H
                                have c79b0 : (t143 == (wrap64 ((wrap64 (x139000_1 + (Int.tmod (wrap64 (Int.tdiv t141 4)) 9))) - 4))) = false := beq_eq_false_iff_ne.mpr c79
                                have c79b1 : (t143 != (wrap64 ((wrap64 (x139000_1 + (Int.tmod (wrap64 (Int.tdiv t141 4)) 9))) - 4))) = true := bne_iff_ne.mpr c79
                                obtain rfl := Option.some.inj H
                                exact absurd hr_.out (by simp)
                        · replace c47 := Bool.eq_false_iff.mpr c47
                          subst c47
                          have H1 : (beguinagelaw22_QuotaGrace.l0 kj19 l3 t134 (wrap64 (x12_1 + (Int.tmod t141 4))) x13_1 (wrap64 (x14_1 + 1)) 0 t134 t135 9 9 t136 0 x139000_1 x139001_1 x139002_1 x139003_1) = some r := by rw [if_neg (show ¬ (false = true) by decide)] at H; exact H
                          clear H
                          have H := H1
                          clear H1
                          have H' := Aside0.mk H
                          clear H
                          have hnb93 := NB137_138.out
                          have hnc93 := NB138_137.out
                          have hcz94_0 : wc.cell? ⟨gb137, 0, none⟩ = some (.int .i64 0) := (blk_cell BK137.out 0).trans rfl
                          have hcz94_1 : wc.cell? ⟨gb137, 1, none⟩ = some (.int .i64 t134) := (blk_cell BK137.out 1).trans rfl
                          have hcz94_2 : wc.cell? ⟨gb137, 2, none⟩ = some (.int .i64 t135) := (blk_cell BK137.out 2).trans rfl
                          have hcz94_3 : wc.cell? ⟨gb137, 3, none⟩ = some (.int .i64 9) := (blk_cell BK137.out 3).trans rfl
                          have hcz94_4 : wc.cell? ⟨gb137, 4, none⟩ = some (.int .i64 9) := (blk_cell BK137.out 4).trans rfl
                          have hcz94_5 : wc.cell? ⟨gb137, 5, none⟩ = some (.int .i64 t136) := (blk_cell BK137.out 5).trans rfl
                          have hcz94_6 : wc.cell? ⟨gb137, 6, none⟩ = some (.int .i64 0) := (blk_cell BK137.out 6).trans rfl
                          have hfz94_0 := blk_frozen BK137.out 0
                          have hfz94_1 := blk_frozen BK137.out 1
                          have hfz94_2 := blk_frozen BK137.out 2
                          have hfz94_3 := blk_frozen BK137.out 3
                          have hfz94_4 := blk_frozen BK137.out 4
                          have hfz94_5 := blk_frozen BK137.out 5
                          have hfz94_6 := blk_frozen BK137.out 6
                          have hcz95_0 : wc.cell? ⟨gb138, 0, none⟩ = some (.int .i64 x139000_1) := (blk_cell BK138.out 0).trans rfl
                          have hcz95_1 : wc.cell? ⟨gb138, 1, none⟩ = some (.int .i64 x139001_1) := (blk_cell BK138.out 1).trans rfl
                          have hcz95_2 : wc.cell? ⟨gb138, 2, none⟩ = some (.int .i64 x139002_1) := (blk_cell BK138.out 2).trans rfl
                          have hcz95_3 : wc.cell? ⟨gb138, 3, none⟩ = some (.int .i64 x139003_1) := (blk_cell BK138.out 3).trans rfl
                          have hfz95_0 := blk_frozen BK138.out 0
                          have hfz95_1 := blk_frozen BK138.out 1
                          have hfz95_2 := blk_frozen BK138.out 2
                          have hfz95_3 := blk_frozen BK138.out 3
                          go_wp2_with (first | ((with_reducible refine gate_callee (f := 29) rfl ?_); refine goesL_ (some 92) rfl rfl Try.func29 (by kernel_rfl) rfl #[.agg #[.int .i64 0, .int .i64 t134, .int .i64 t135, .int .i64 9, .int .i64 9, .int .i64 t136, .int .i64 0], .agg #[.int .i64 x139000_1, .int .i64 x139001_1, .int .i64 x139002_1, .int .i64 x139003_1], .int .i64 (wrap64 (x12_1 + (Int.tmod t141 4))), .int .i64 (wrap64 ((wrap64 (x139000_1 + (Int.tmod (wrap64 (Int.tdiv t141 4)) 9))) - 4)), .int .i64 1] rfl (by (try simp only [List.map_toArray, List.map_cons, List.map_nil]); first | done | rfl | (simp only [List.length_drop, List.length_take]; rfl)) ?_; (with_reducible refine (quota_May.calls 0 t134 t135 9 9 t136 0 x139000_1 x139001_1 x139002_1 x139003_1 (wrap64 (x12_1 + (Int.tmod t141 4))) (wrap64 ((wrap64 (x139000_1 + (Int.tmod (wrap64 (Int.tdiv t141 4)) 9))) - 4)) 1 t142 _ A45.out).mono ?_); rintro e w96 ⟨rfl, hb⟩; refine ⟨_, rfl, ?_⟩; have n0_ := Aside0.mk (blk_below (blk_l BK137.out) hb); have n1_ := Aside0.mk (blk_below (blk_l BK138.out) hb); have n2_ := Aside0.mk (below_step (by repeat (first | (with_reducible first | exact HB.out | apply below_alloc | apply pw_below_drewN | apply below_drew1 | refine below_set ?_ GE137.out | refine below_set ?_ GE138.out) | exact HB.out)) hb); clear BK137; clear BK138; clear HB; have BK137 := n0_; have BK138 := n1_; have HB := n2_; clear n0_ n1_ n2_; (try clear hb); (try clear hb2); (try clear hk); (try clear hi)))
                          go_roundg kj19
                          case measure => have := HK1.out; have := HJ10.out; have := HJ19.out; omega
                          case rel => exact ⟨((wrap64 (x12_1 + (Int.tmod t141 4)))), (x13_1), (wrap64 (x14_1 + 1)), (x139000_1), (x139001_1), (x139002_1), (x139003_1), (by first | rfl | (simp; done) | (simp [*]; done)), (by first | rfl | (simp; done) | (simp [*]; done)), (by first | rfl | (simp; done) | (simp [*]; done)), H', ⟨by have := HK1.out; have := HJ10.out; have := HJ19.out; omega⟩, ⟨by (with_reducible repeat (first | refine blk_drewN ?_ _ | refine blk_drew ?_ | refine blk_alloc ?_ _)); exact BK137.out⟩, ⟨by (with_reducible repeat (first | refine blk_drewN ?_ _ | refine blk_drew ?_ | refine blk_alloc ?_ _)); exact BK138.out⟩, ⟨by repeat (first | (with_reducible first | exact HB.out | apply below_alloc | apply pw_below_drewN | apply below_drew1 | refine below_set ?_ GE137.out | refine below_set ?_ GE138.out) | exact HB.out)⟩⟩
              · rw [if_neg c15] at H
                exact absurd H (by simp)
            · rw [if_neg c14] at H
              exact absurd H (by simp)
          · replace c13 := Bool.eq_false_iff.mpr c13
            subst c13
            have H1 : ((beguinagelaw22_awake.f).bind fun t139 => (some t139)) = some r := by rw [if_neg (show ¬ (false = true) by decide)] at H; exact H
            clear H
            have H := H1
            clear H1
            replace H := Option.bind_eq_some_iff.mp H
            obtain ⟨t139, A970, H⟩ := H
            replace H : (some t139) = some r := H
            have A97 := Aside0.mk A970
            clear A970
            obtain rfl := Option.some.inj H
            go_wp2_with (first | ((with_reducible refine gate_callee (f := 31) rfl ?_); refine goesL_ (some 138) rfl rfl Try.func31 (by kernel_rfl) rfl #[] rfl (by (try simp only [List.map_toArray, List.map_cons, List.map_nil]); first | done | rfl | (simp only [List.length_drop, List.length_take]; rfl)) ?_; (with_reducible refine (beguinagelaw22_awake.calls  t139 _ A97.out).mono ?_); rintro e w98 ⟨rfl, hb⟩; refine ⟨_, rfl, ?_⟩; have n0_ := Aside0.mk (blk_below (blk_l BK137.out) hb); have n1_ := Aside0.mk (blk_below (blk_l BK138.out) hb); have n2_ := Aside0.mk (below_step (by repeat (first | (with_reducible first | exact HB.out | apply below_alloc | apply pw_below_drewN | apply below_drew1 | refine below_set ?_ GE137.out | refine below_set ?_ GE138.out) | exact HB.out)) hb); clear BK137; clear BK138; clear HB; have BK137 := n0_; have BK138 := n1_; have HB := n2_; clear n0_ n1_ n2_; (try clear hb); (try clear hb2); (try clear hk); (try clear hi)))
            go_ret
            exact ⟨by first | rfl | (simp [errW_none, errW_some] <;> rfl) | (simp [*, errW_none, errW_some] <;> rfl), by repeat (first | (with_reducible first | exact HB.out | apply below_alloc | apply pw_below_drewN | apply below_drew1 | refine below_set ?_ GE137.out | refine below_set ?_ GE138.out) | exact HB.out)⟩

/-- THE ONE PURE STATEMENT of beguinagelaw22_QuotaGrace: yours. -/
def beguinagelaw22_QuotaGrace.Pure : Prop := ∀ (a0 : Int) (a1 : Int) (a2 : Int) (l3 : List Int), (Lit.int .i64 a0).wf = true → (Lit.int .i64 a1).wf = true → (Lit.int .i64 a2).wf = true → l3.length ≤ maxLen → l3.length * 8 ≤ 140737488351232 → (∀ x ∈ l3, (Lit.int .i64 x).wf = true) → ∃ k, beguinagelaw22_QuotaGrace.f k a0 a1 a2 l3 = some true
theorem beguinagelaw22_QuotaGrace.walk (P : beguinagelaw22_QuotaGrace.Pure) (a0 : Int) (a1 : Int) (a2 : Int) (a3 : Option Addr) (len3 cap3 : Nat) (z3 : List Int) (w : World) (w0 : (Lit.int .i64 a0).wf = true) (w1 : (Lit.int .i64 a1).wf = true) (w2 : (Lit.int .i64 a2).wf = true) (w3 : (a3 = none ∧ len3 = 0 ∧ cap3 = 0 ∧ z3 = []) ∨ ∃ x, a3 = some x ∧ len3 ≤ cap3 ∧ cap3 ≤ maxLen ∧ z3.length = cap3 ∧ (∀ i, i < z3.length → w.cell? (x.add i) = some (.int .i64 (z3.getD i 0))) ∧ ∀ n ∈ z3, (Lit.int .i64 n).wf = true) (y3 : len3 * 8 ≤ 140737488351232) :
    Calls Try.prog 11 #[.int .i64 a0, .int .i64 a1, .int .i64 a2, .slice a3 len3 cap3] w fun e w' => e = .returned (.bool true) ∧ Below w.heap.size w w' := by
  obtain ⟨l3, rfl, hr3, hm3, hw3, hc3⟩ := ReadsInt.ofRowC w3
  obtain ⟨k, h⟩ := P a0 a1 a2 l3 w0 w1 w2 hm3 y3 hw3
  refine (beguinagelaw22_QuotaGrace.calls k a0 a1 a2 _ _ l3 true w (Kd.C_of_reads (d := (0 : Int)) (h1 := fun _ => rfl) hr3) hc3 h ⟨rfl⟩).mono ?_
  rintro e w' ⟨rfl, hd⟩
  exact ⟨rfl, hd⟩

end Go.Proofs.Ytmjkkkllmpagpaa.PQuota
