-- Written by wip/pr.py, a program of this session's own that drives the kit's printer: not a text of print.sh.
import Derived.Test.YtmjkkkllmpagpaaPGeomx0
import Derived.Test.YtmjkkkllmpagpaaPGeomx1
import Derived.Test.YtmjkkkllmpagpaaPGeomx2
import Derived.Test.YtmjkkkllmpagpaaPGeomx3
import Derived.Test.YtmjkkkllmpagpaaPGeomx4
import Derived.Test.YtmjkkkllmpagpaaPGeomx5
import Derived.Test.YtmjkkkllmpagpaaPGeomx6
namespace Go.Proofs.Ytmjkkkllmpagpaa.PGeom
open Go.RowKit Go.Proofs.YtmjkkkllmpagpaaW.PrintWords Go.Proofs.YtmjkkkllmpagpaaW.PrintLast Go.Proofs.YtmjkkkllmpagpaaW.PrintMore
attribute [local go_sem] max2_int min2_int max_two min_two max_three min_three max_four min_four   -- for this text's walks alone
set_option linter.unusedVariables false
set_option linter.unusedSimpArgs false

/-! ### beguinagelaw05_GeomEdges: function 3 -/
def beguinagelaw05_GeomEdges.f (a0 : Int) (a1 : Int) : Option (Bool) := (beguinagelaw00_Place.f a0 33).bind fun t109 => ((beguinagelaw00_Place.f a1 60).bind fun t110 => ((geom_Check.f (wrap64 (48 + (wrap64 (8 * (wrap64 (32 + t109)))))) (wrap64 (32 + t109))).bind fun t112 => (if t112 = true then ((geom_Segs.f (wrap64 (48 + (wrap64 (8 * (wrap64 (32 + t109)))))) (wrap64 (32 + t109))).bind fun t113 => (if t113 = 8 then ((geom_Check.f (wrap64 ((wrap64 (48 + (wrap64 (8 * (wrap64 (32 + t109)))))) - 1)) (wrap64 (32 + t109))).bind fun t114 => (if t114 = true then (some false) else ((geom_Segs.f (wrap64 ((wrap64 (48 + (wrap64 (8 * (wrap64 (32 + t109)))))) - 1)) (wrap64 (32 + t109))).bind fun t115 => (if t115 = 0 then ((geom_Check.f 16384 (wrap64 (32 + t109))).bind fun t116 => (if t116 = true then ((geom_Check.f 16385 (wrap64 (32 + t109))).bind fun t117 => (if t117 = true then (some false) else ((geom_Check.f (wrap64 (48 + (wrap64 (8 * (wrap64 (32 + t109)))))) 31).bind fun t118 => (if t118 = true then (some false) else ((geom_Check.f 16384 65).bind fun t119 => (if t119 = true then (some false) else ((geom_Room.f (wrap64 (48 + (wrap64 (8 * (wrap64 (32 + t109)))))) (wrap64 (32 + t109)) t110 0 0 0 0 0 0).bind fun t120 => (if t120 = (wrap64 ((mx (wrap64 (t110 - 4)) 0) * (wrap64 (Int.tdiv (wrap64 (32 + t109)) 4)))) then ((geom_SlotAt.f 0 0).bind fun t121 => (if t121 = 0 then ((geom_SlotAt.f 16 1).bind fun t122 => (if t122 = 47 then ((geom_SlotAt.f 17 0).bind fun t123 => (if t123 = 0 then ((beguinagelaw05_awake.f).bind fun t124 => (some t124)) else (some false))) else (some false))) else (some false))) else (some false))))))))) else (some false))) else (some false))))) else (some false))) else (some false))))
set_option maxHeartbeats 8000000 in
set_option maxRecDepth 100000 in
theorem beguinagelaw05_GeomEdges.calls (a0 : Int) (a1 : Int) (r : Bool) (w : World) (h : beguinagelaw05_GeomEdges.f a0 a1 = some r) (hr_ : Aside0 (r = true)) :
    Calls Try.prog 3 #[.int .i64 a0, .int .i64 a1] w fun e w' => e = .returned (.bool r) ∧ Below w.heap.size w w' := by
  have hu24 := Try.underlying24
  have hu29 := Try.underlying29
  have HB := Aside0.mk (Below.refl w.heap.size w)
  have H : ((beguinagelaw00_Place.f a0 33).bind fun t109 => ((beguinagelaw00_Place.f a1 60).bind fun t110 => ((geom_Check.f (wrap64 (48 + (wrap64 (8 * (wrap64 (32 + t109)))))) (wrap64 (32 + t109))).bind fun t112 => (if t112 = true then ((geom_Segs.f (wrap64 (48 + (wrap64 (8 * (wrap64 (32 + t109)))))) (wrap64 (32 + t109))).bind fun t113 => (if t113 = 8 then ((geom_Check.f (wrap64 ((wrap64 (48 + (wrap64 (8 * (wrap64 (32 + t109)))))) - 1)) (wrap64 (32 + t109))).bind fun t114 => (if t114 = true then (some false) else ((geom_Segs.f (wrap64 ((wrap64 (48 + (wrap64 (8 * (wrap64 (32 + t109)))))) - 1)) (wrap64 (32 + t109))).bind fun t115 => (if t115 = 0 then ((geom_Check.f 16384 (wrap64 (32 + t109))).bind fun t116 => (if t116 = true then ((geom_Check.f 16385 (wrap64 (32 + t109))).bind fun t117 => (if t117 = true then (some false) else ((geom_Check.f (wrap64 (48 + (wrap64 (8 * (wrap64 (32 + t109)))))) 31).bind fun t118 => (if t118 = true then (some false) else ((geom_Check.f 16384 65).bind fun t119 => (if t119 = true then (some false) else ((geom_Room.f (wrap64 (48 + (wrap64 (8 * (wrap64 (32 + t109)))))) (wrap64 (32 + t109)) t110 0 0 0 0 0 0).bind fun t120 => (if t120 = (wrap64 ((mx (wrap64 (t110 - 4)) 0) * (wrap64 (Int.tdiv (wrap64 (32 + t109)) 4)))) then ((geom_SlotAt.f 0 0).bind fun t121 => (if t121 = 0 then ((geom_SlotAt.f 16 1).bind fun t122 => (if t122 = 47 then ((geom_SlotAt.f 17 0).bind fun t123 => (if t123 = 0 then ((beguinagelaw05_awake.f).bind fun t124 => (some t124)) else (some false))) else (some false))) else (some false))) else (some false))))))))) else (some false))) else (some false))))) else (some false))) else (some false))))) = some r := h
  clear h
  replace H := Option.bind_eq_some_iff.mp H
  obtain ⟨t109, A30, H⟩ := H
  replace H : ((beguinagelaw00_Place.f a1 60).bind fun t110 => ((geom_Check.f (wrap64 (48 + (wrap64 (8 * (wrap64 (32 + t109)))))) (wrap64 (32 + t109))).bind fun t112 => (if t112 = true then ((geom_Segs.f (wrap64 (48 + (wrap64 (8 * (wrap64 (32 + t109)))))) (wrap64 (32 + t109))).bind fun t113 => (if t113 = 8 then ((geom_Check.f (wrap64 ((wrap64 (48 + (wrap64 (8 * (wrap64 (32 + t109)))))) - 1)) (wrap64 (32 + t109))).bind fun t114 => (if t114 = true then (some false) else ((geom_Segs.f (wrap64 ((wrap64 (48 + (wrap64 (8 * (wrap64 (32 + t109)))))) - 1)) (wrap64 (32 + t109))).bind fun t115 => (if t115 = 0 then ((geom_Check.f 16384 (wrap64 (32 + t109))).bind fun t116 => (if t116 = true then ((geom_Check.f 16385 (wrap64 (32 + t109))).bind fun t117 => (if t117 = true then (some false) else ((geom_Check.f (wrap64 (48 + (wrap64 (8 * (wrap64 (32 + t109)))))) 31).bind fun t118 => (if t118 = true then (some false) else ((geom_Check.f 16384 65).bind fun t119 => (if t119 = true then (some false) else ((geom_Room.f (wrap64 (48 + (wrap64 (8 * (wrap64 (32 + t109)))))) (wrap64 (32 + t109)) t110 0 0 0 0 0 0).bind fun t120 => (if t120 = (wrap64 ((mx (wrap64 (t110 - 4)) 0) * (wrap64 (Int.tdiv (wrap64 (32 + t109)) 4)))) then ((geom_SlotAt.f 0 0).bind fun t121 => (if t121 = 0 then ((geom_SlotAt.f 16 1).bind fun t122 => (if t122 = 47 then ((geom_SlotAt.f 17 0).bind fun t123 => (if t123 = 0 then ((beguinagelaw05_awake.f).bind fun t124 => (some t124)) else (some false))) else (some false))) else (some false))) else (some false))))))))) else (some false))) else (some false))))) else (some false))) else (some false)))) = some r := H
  have A3 := Aside0.mk A30
  clear A30
  replace H := Option.bind_eq_some_iff.mp H
  obtain ⟨t110, A40, H⟩ := H
  replace H : ((geom_Check.f (wrap64 (48 + (wrap64 (8 * (wrap64 (32 + t109)))))) (wrap64 (32 + t109))).bind fun t112 => (if t112 = true then ((geom_Segs.f (wrap64 (48 + (wrap64 (8 * (wrap64 (32 + t109)))))) (wrap64 (32 + t109))).bind fun t113 => (if t113 = 8 then ((geom_Check.f (wrap64 ((wrap64 (48 + (wrap64 (8 * (wrap64 (32 + t109)))))) - 1)) (wrap64 (32 + t109))).bind fun t114 => (if t114 = true then (some false) else ((geom_Segs.f (wrap64 ((wrap64 (48 + (wrap64 (8 * (wrap64 (32 + t109)))))) - 1)) (wrap64 (32 + t109))).bind fun t115 => (if t115 = 0 then ((geom_Check.f 16384 (wrap64 (32 + t109))).bind fun t116 => (if t116 = true then ((geom_Check.f 16385 (wrap64 (32 + t109))).bind fun t117 => (if t117 = true then (some false) else ((geom_Check.f (wrap64 (48 + (wrap64 (8 * (wrap64 (32 + t109)))))) 31).bind fun t118 => (if t118 = true then (some false) else ((geom_Check.f 16384 65).bind fun t119 => (if t119 = true then (some false) else ((geom_Room.f (wrap64 (48 + (wrap64 (8 * (wrap64 (32 + t109)))))) (wrap64 (32 + t109)) t110 0 0 0 0 0 0).bind fun t120 => (if t120 = (wrap64 ((mx (wrap64 (t110 - 4)) 0) * (wrap64 (Int.tdiv (wrap64 (32 + t109)) 4)))) then ((geom_SlotAt.f 0 0).bind fun t121 => (if t121 = 0 then ((geom_SlotAt.f 16 1).bind fun t122 => (if t122 = 47 then ((geom_SlotAt.f 17 0).bind fun t123 => (if t123 = 0 then ((beguinagelaw05_awake.f).bind fun t124 => (some t124)) else (some false))) else (some false))) else (some false))) else (some false))))))))) else (some false))) else (some false))))) else (some false))) else (some false))) = some r := H
  have A4 := Aside0.mk A40
  clear A40
  replace H := Option.bind_eq_some_iff.mp H
  obtain ⟨t112, A50, H⟩ := H
  replace H : (if t112 = true then ((geom_Segs.f (wrap64 (48 + (wrap64 (8 * (wrap64 (32 + t109)))))) (wrap64 (32 + t109))).bind fun t113 => (if t113 = 8 then ((geom_Check.f (wrap64 ((wrap64 (48 + (wrap64 (8 * (wrap64 (32 + t109)))))) - 1)) (wrap64 (32 + t109))).bind fun t114 => (if t114 = true then (some false) else ((geom_Segs.f (wrap64 ((wrap64 (48 + (wrap64 (8 * (wrap64 (32 + t109)))))) - 1)) (wrap64 (32 + t109))).bind fun t115 => (if t115 = 0 then ((geom_Check.f 16384 (wrap64 (32 + t109))).bind fun t116 => (if t116 = true then ((geom_Check.f 16385 (wrap64 (32 + t109))).bind fun t117 => (if t117 = true then (some false) else ((geom_Check.f (wrap64 (48 + (wrap64 (8 * (wrap64 (32 + t109)))))) 31).bind fun t118 => (if t118 = true then (some false) else ((geom_Check.f 16384 65).bind fun t119 => (if t119 = true then (some false) else ((geom_Room.f (wrap64 (48 + (wrap64 (8 * (wrap64 (32 + t109)))))) (wrap64 (32 + t109)) t110 0 0 0 0 0 0).bind fun t120 => (if t120 = (wrap64 ((mx (wrap64 (t110 - 4)) 0) * (wrap64 (Int.tdiv (wrap64 (32 + t109)) 4)))) then ((geom_SlotAt.f 0 0).bind fun t121 => (if t121 = 0 then ((geom_SlotAt.f 16 1).bind fun t122 => (if t122 = 47 then ((geom_SlotAt.f 17 0).bind fun t123 => (if t123 = 0 then ((beguinagelaw05_awake.f).bind fun t124 => (some t124)) else (some false))) else (some false))) else (some false))) else (some false))))))))) else (some false))) else (some false))))) else (some false))) else (some false)) = some r := H
  have A5 := Aside0.mk A50
  clear A50
  by_cases c6 : t112 = true
  · subst c6
    have H1 : ((geom_Segs.f (wrap64 (48 + (wrap64 (8 * (wrap64 (32 + t109)))))) (wrap64 (32 + t109))).bind fun t113 => (if t113 = 8 then ((geom_Check.f (wrap64 ((wrap64 (48 + (wrap64 (8 * (wrap64 (32 + t109)))))) - 1)) (wrap64 (32 + t109))).bind fun t114 => (if t114 = true then (some false) else ((geom_Segs.f (wrap64 ((wrap64 (48 + (wrap64 (8 * (wrap64 (32 + t109)))))) - 1)) (wrap64 (32 + t109))).bind fun t115 => (if t115 = 0 then ((geom_Check.f 16384 (wrap64 (32 + t109))).bind fun t116 => (if t116 = true then ((geom_Check.f 16385 (wrap64 (32 + t109))).bind fun t117 => (if t117 = true then (some false) else ((geom_Check.f (wrap64 (48 + (wrap64 (8 * (wrap64 (32 + t109)))))) 31).bind fun t118 => (if t118 = true then (some false) else ((geom_Check.f 16384 65).bind fun t119 => (if t119 = true then (some false) else ((geom_Room.f (wrap64 (48 + (wrap64 (8 * (wrap64 (32 + t109)))))) (wrap64 (32 + t109)) t110 0 0 0 0 0 0).bind fun t120 => (if t120 = (wrap64 ((mx (wrap64 (t110 - 4)) 0) * (wrap64 (Int.tdiv (wrap64 (32 + t109)) 4)))) then ((geom_SlotAt.f 0 0).bind fun t121 => (if t121 = 0 then ((geom_SlotAt.f 16 1).bind fun t122 => (if t122 = 47 then ((geom_SlotAt.f 17 0).bind fun t123 => (if t123 = 0 then ((beguinagelaw05_awake.f).bind fun t124 => (some t124)) else (some false))) else (some false))) else (some false))) else (some false))))))))) else (some false))) else (some false))))) else (some false))) = some r := by rw [if_pos rfl] at H; exact H
    clear H
    have H := H1
    clear H1
    replace H := Option.bind_eq_some_iff.mp H
    obtain ⟨t113, A70, H⟩ := H
    replace H : (if t113 = 8 then ((geom_Check.f (wrap64 ((wrap64 (48 + (wrap64 (8 * (wrap64 (32 + t109)))))) - 1)) (wrap64 (32 + t109))).bind fun t114 => (if t114 = true then (some false) else ((geom_Segs.f (wrap64 ((wrap64 (48 + (wrap64 (8 * (wrap64 (32 + t109)))))) - 1)) (wrap64 (32 + t109))).bind fun t115 => (if t115 = 0 then ((geom_Check.f 16384 (wrap64 (32 + t109))).bind fun t116 => (if t116 = true then ((geom_Check.f 16385 (wrap64 (32 + t109))).bind fun t117 => (if t117 = true then (some false) else ((geom_Check.f (wrap64 (48 + (wrap64 (8 * (wrap64 (32 + t109)))))) 31).bind fun t118 => (if t118 = true then (some false) else ((geom_Check.f 16384 65).bind fun t119 => (if t119 = true then (some false) else ((geom_Room.f (wrap64 (48 + (wrap64 (8 * (wrap64 (32 + t109)))))) (wrap64 (32 + t109)) t110 0 0 0 0 0 0).bind fun t120 => (if t120 = (wrap64 ((mx (wrap64 (t110 - 4)) 0) * (wrap64 (Int.tdiv (wrap64 (32 + t109)) 4)))) then ((geom_SlotAt.f 0 0).bind fun t121 => (if t121 = 0 then ((geom_SlotAt.f 16 1).bind fun t122 => (if t122 = 47 then ((geom_SlotAt.f 17 0).bind fun t123 => (if t123 = 0 then ((beguinagelaw05_awake.f).bind fun t124 => (some t124)) else (some false))) else (some false))) else (some false))) else (some false))))))))) else (some false))) else (some false))))) else (some false)) = some r := H
    have A7 := Aside0.mk A70
    clear A70
    by_cases c8 : t113 = 8
    · rw [if_pos c8] at H
      have c8b0 : (t113 == 8) = true := beq_iff_eq.mpr c8
      have c8b1 : (t113 != 8) = false := bne_eq_false_iff_eq.mpr c8
      clear c8
      replace H := Option.bind_eq_some_iff.mp H
      obtain ⟨t114, A90, H⟩ := H
      replace H : (if t114 = true then (some false) else ((geom_Segs.f (wrap64 ((wrap64 (48 + (wrap64 (8 * (wrap64 (32 + t109)))))) - 1)) (wrap64 (32 + t109))).bind fun t115 => (if t115 = 0 then ((geom_Check.f 16384 (wrap64 (32 + t109))).bind fun t116 => (if t116 = true then ((geom_Check.f 16385 (wrap64 (32 + t109))).bind fun t117 => (if t117 = true then (some false) else ((geom_Check.f (wrap64 (48 + (wrap64 (8 * (wrap64 (32 + t109)))))) 31).bind fun t118 => (if t118 = true then (some false) else ((geom_Check.f 16384 65).bind fun t119 => (if t119 = true then (some false) else ((geom_Room.f (wrap64 (48 + (wrap64 (8 * (wrap64 (32 + t109)))))) (wrap64 (32 + t109)) t110 0 0 0 0 0 0).bind fun t120 => (if t120 = (wrap64 ((mx (wrap64 (t110 - 4)) 0) * (wrap64 (Int.tdiv (wrap64 (32 + t109)) 4)))) then ((geom_SlotAt.f 0 0).bind fun t121 => (if t121 = 0 then ((geom_SlotAt.f 16 1).bind fun t122 => (if t122 = 47 then ((geom_SlotAt.f 17 0).bind fun t123 => (if t123 = 0 then ((beguinagelaw05_awake.f).bind fun t124 => (some t124)) else (some false))) else (some false))) else (some false))) else (some false))))))))) else (some false))) else (some false)))) = some r := H
      have A9 := Aside0.mk A90
      clear A90
      by_cases c10 : t114 = true
      · subst c10
        have H1 : (some false) = some r := by rw [if_pos rfl] at H; exact H
        clear H
        have H := H1
        clear H1
        obtain rfl := Option.some.inj H
        exact absurd hr_.out (by simp)
      · replace c10 := Bool.eq_false_iff.mpr c10
        subst c10
        have H1 : ((geom_Segs.f (wrap64 ((wrap64 (48 + (wrap64 (8 * (wrap64 (32 + t109)))))) - 1)) (wrap64 (32 + t109))).bind fun t115 => (if t115 = 0 then ((geom_Check.f 16384 (wrap64 (32 + t109))).bind fun t116 => (if t116 = true then ((geom_Check.f 16385 (wrap64 (32 + t109))).bind fun t117 => (if t117 = true then (some false) else ((geom_Check.f (wrap64 (48 + (wrap64 (8 * (wrap64 (32 + t109)))))) 31).bind fun t118 => (if t118 = true then (some false) else ((geom_Check.f 16384 65).bind fun t119 => (if t119 = true then (some false) else ((geom_Room.f (wrap64 (48 + (wrap64 (8 * (wrap64 (32 + t109)))))) (wrap64 (32 + t109)) t110 0 0 0 0 0 0).bind fun t120 => (if t120 = (wrap64 ((mx (wrap64 (t110 - 4)) 0) * (wrap64 (Int.tdiv (wrap64 (32 + t109)) 4)))) then ((geom_SlotAt.f 0 0).bind fun t121 => (if t121 = 0 then ((geom_SlotAt.f 16 1).bind fun t122 => (if t122 = 47 then ((geom_SlotAt.f 17 0).bind fun t123 => (if t123 = 0 then ((beguinagelaw05_awake.f).bind fun t124 => (some t124)) else (some false))) else (some false))) else (some false))) else (some false))))))))) else (some false))) else (some false))) = some r := by rw [if_neg (show ¬ (false = true) by decide)] at H; exact H
        clear H
        have H := H1
        clear H1
        replace H := Option.bind_eq_some_iff.mp H
        obtain ⟨t115, A110, H⟩ := H
        replace H : (if t115 = 0 then ((geom_Check.f 16384 (wrap64 (32 + t109))).bind fun t116 => (if t116 = true then ((geom_Check.f 16385 (wrap64 (32 + t109))).bind fun t117 => (if t117 = true then (some false) else ((geom_Check.f (wrap64 (48 + (wrap64 (8 * (wrap64 (32 + t109)))))) 31).bind fun t118 => (if t118 = true then (some false) else ((geom_Check.f 16384 65).bind fun t119 => (if t119 = true then (some false) else ((geom_Room.f (wrap64 (48 + (wrap64 (8 * (wrap64 (32 + t109)))))) (wrap64 (32 + t109)) t110 0 0 0 0 0 0).bind fun t120 => (if t120 = (wrap64 ((mx (wrap64 (t110 - 4)) 0) * (wrap64 (Int.tdiv (wrap64 (32 + t109)) 4)))) then ((geom_SlotAt.f 0 0).bind fun t121 => (if t121 = 0 then ((geom_SlotAt.f 16 1).bind fun t122 => (if t122 = 47 then ((geom_SlotAt.f 17 0).bind fun t123 => (if t123 = 0 then ((beguinagelaw05_awake.f).bind fun t124 => (some t124)) else (some false))) else (some false))) else (some false))) else (some false))))))))) else (some false))) else (some false)) = some r := H
        have A11 := Aside0.mk A110
        clear A110
        by_cases c12 : t115 = 0
        · rw [if_pos c12] at H
          have c12b0 : (t115 == 0) = true := beq_iff_eq.mpr c12
          have c12b1 : (t115 != 0) = false := bne_eq_false_iff_eq.mpr c12
          clear c12
          replace H := Option.bind_eq_some_iff.mp H
          obtain ⟨t116, A130, H⟩ := H
          replace H : (if t116 = true then ((geom_Check.f 16385 (wrap64 (32 + t109))).bind fun t117 => (if t117 = true then (some false) else ((geom_Check.f (wrap64 (48 + (wrap64 (8 * (wrap64 (32 + t109)))))) 31).bind fun t118 => (if t118 = true then (some false) else ((geom_Check.f 16384 65).bind fun t119 => (if t119 = true then (some false) else ((geom_Room.f (wrap64 (48 + (wrap64 (8 * (wrap64 (32 + t109)))))) (wrap64 (32 + t109)) t110 0 0 0 0 0 0).bind fun t120 => (if t120 = (wrap64 ((mx (wrap64 (t110 - 4)) 0) * (wrap64 (Int.tdiv (wrap64 (32 + t109)) 4)))) then ((geom_SlotAt.f 0 0).bind fun t121 => (if t121 = 0 then ((geom_SlotAt.f 16 1).bind fun t122 => (if t122 = 47 then ((geom_SlotAt.f 17 0).bind fun t123 => (if t123 = 0 then ((beguinagelaw05_awake.f).bind fun t124 => (some t124)) else (some false))) else (some false))) else (some false))) else (some false))))))))) else (some false)) = some r := H
          have A13 := Aside0.mk A130
          clear A130
          by_cases c14 : t116 = true
          · subst c14
            have H1 : ((geom_Check.f 16385 (wrap64 (32 + t109))).bind fun t117 => (if t117 = true then (some false) else ((geom_Check.f (wrap64 (48 + (wrap64 (8 * (wrap64 (32 + t109)))))) 31).bind fun t118 => (if t118 = true then (some false) else ((geom_Check.f 16384 65).bind fun t119 => (if t119 = true then (some false) else ((geom_Room.f (wrap64 (48 + (wrap64 (8 * (wrap64 (32 + t109)))))) (wrap64 (32 + t109)) t110 0 0 0 0 0 0).bind fun t120 => (if t120 = (wrap64 ((mx (wrap64 (t110 - 4)) 0) * (wrap64 (Int.tdiv (wrap64 (32 + t109)) 4)))) then ((geom_SlotAt.f 0 0).bind fun t121 => (if t121 = 0 then ((geom_SlotAt.f 16 1).bind fun t122 => (if t122 = 47 then ((geom_SlotAt.f 17 0).bind fun t123 => (if t123 = 0 then ((beguinagelaw05_awake.f).bind fun t124 => (some t124)) else (some false))) else (some false))) else (some false))) else (some false))))))))) = some r := by rw [if_pos rfl] at H; exact H
            clear H
            have H := H1
            clear H1
            replace H := Option.bind_eq_some_iff.mp H
            obtain ⟨t117, A150, H⟩ := H
            replace H : (if t117 = true then (some false) else ((geom_Check.f (wrap64 (48 + (wrap64 (8 * (wrap64 (32 + t109)))))) 31).bind fun t118 => (if t118 = true then (some false) else ((geom_Check.f 16384 65).bind fun t119 => (if t119 = true then (some false) else ((geom_Room.f (wrap64 (48 + (wrap64 (8 * (wrap64 (32 + t109)))))) (wrap64 (32 + t109)) t110 0 0 0 0 0 0).bind fun t120 => (if t120 = (wrap64 ((mx (wrap64 (t110 - 4)) 0) * (wrap64 (Int.tdiv (wrap64 (32 + t109)) 4)))) then ((geom_SlotAt.f 0 0).bind fun t121 => (if t121 = 0 then ((geom_SlotAt.f 16 1).bind fun t122 => (if t122 = 47 then ((geom_SlotAt.f 17 0).bind fun t123 => (if t123 = 0 then ((beguinagelaw05_awake.f).bind fun t124 => (some t124)) else (some false))) else (some false))) else (some false))) else (some false)))))))) = some r := H
            have A15 := Aside0.mk A150
            clear A150
            by_cases c16 : t117 = true
            · subst c16
              have H1 : (some false) = some r := by rw [if_pos rfl] at H; exact H
              clear H
              have H := H1
              clear H1
              obtain rfl := Option.some.inj H
              exact absurd hr_.out (by simp)
            · replace c16 := Bool.eq_false_iff.mpr c16
              subst c16
              have H1 : ((geom_Check.f (wrap64 (48 + (wrap64 (8 * (wrap64 (32 + t109)))))) 31).bind fun t118 => (if t118 = true then (some false) else ((geom_Check.f 16384 65).bind fun t119 => (if t119 = true then (some false) else ((geom_Room.f (wrap64 (48 + (wrap64 (8 * (wrap64 (32 + t109)))))) (wrap64 (32 + t109)) t110 0 0 0 0 0 0).bind fun t120 => (if t120 = (wrap64 ((mx (wrap64 (t110 - 4)) 0) * (wrap64 (Int.tdiv (wrap64 (32 + t109)) 4)))) then ((geom_SlotAt.f 0 0).bind fun t121 => (if t121 = 0 then ((geom_SlotAt.f 16 1).bind fun t122 => (if t122 = 47 then ((geom_SlotAt.f 17 0).bind fun t123 => (if t123 = 0 then ((beguinagelaw05_awake.f).bind fun t124 => (some t124)) else (some false))) else (some false))) else (some false))) else (some false))))))) = some r := by rw [if_neg (show ¬ (false = true) by decide)] at H; exact H
              clear H
              have H := H1
              clear H1
              replace H := Option.bind_eq_some_iff.mp H
              obtain ⟨t118, A170, H⟩ := H
              replace H : (if t118 = true then (some false) else ((geom_Check.f 16384 65).bind fun t119 => (if t119 = true then (some false) else ((geom_Room.f (wrap64 (48 + (wrap64 (8 * (wrap64 (32 + t109)))))) (wrap64 (32 + t109)) t110 0 0 0 0 0 0).bind fun t120 => (if t120 = (wrap64 ((mx (wrap64 (t110 - 4)) 0) * (wrap64 (Int.tdiv (wrap64 (32 + t109)) 4)))) then ((geom_SlotAt.f 0 0).bind fun t121 => (if t121 = 0 then ((geom_SlotAt.f 16 1).bind fun t122 => (if t122 = 47 then ((geom_SlotAt.f 17 0).bind fun t123 => (if t123 = 0 then ((beguinagelaw05_awake.f).bind fun t124 => (some t124)) else (some false))) else (some false))) else (some false))) else (some false)))))) = some r := H
              have A17 := Aside0.mk A170
              clear A170
              by_cases c18 : t118 = true
              · subst c18
                have H1 : (some false) = some r := by rw [if_pos rfl] at H; exact H
                clear H
                have H := H1
                clear H1
                obtain rfl := Option.some.inj H
                exact absurd hr_.out (by simp)
              · replace c18 := Bool.eq_false_iff.mpr c18
                subst c18
                have H1 : ((geom_Check.f 16384 65).bind fun t119 => (if t119 = true then (some false) else ((geom_Room.f (wrap64 (48 + (wrap64 (8 * (wrap64 (32 + t109)))))) (wrap64 (32 + t109)) t110 0 0 0 0 0 0).bind fun t120 => (if t120 = (wrap64 ((mx (wrap64 (t110 - 4)) 0) * (wrap64 (Int.tdiv (wrap64 (32 + t109)) 4)))) then ((geom_SlotAt.f 0 0).bind fun t121 => (if t121 = 0 then ((geom_SlotAt.f 16 1).bind fun t122 => (if t122 = 47 then ((geom_SlotAt.f 17 0).bind fun t123 => (if t123 = 0 then ((beguinagelaw05_awake.f).bind fun t124 => (some t124)) else (some false))) else (some false))) else (some false))) else (some false))))) = some r := by rw [if_neg (show ¬ (false = true) by decide)] at H; exact H
                clear H
                have H := H1
                clear H1
                replace H := Option.bind_eq_some_iff.mp H
                obtain ⟨t119, A190, H⟩ := H
                replace H : (if t119 = true then (some false) else ((geom_Room.f (wrap64 (48 + (wrap64 (8 * (wrap64 (32 + t109)))))) (wrap64 (32 + t109)) t110 0 0 0 0 0 0).bind fun t120 => (if t120 = (wrap64 ((mx (wrap64 (t110 - 4)) 0) * (wrap64 (Int.tdiv (wrap64 (32 + t109)) 4)))) then ((geom_SlotAt.f 0 0).bind fun t121 => (if t121 = 0 then ((geom_SlotAt.f 16 1).bind fun t122 => (if t122 = 47 then ((geom_SlotAt.f 17 0).bind fun t123 => (if t123 = 0 then ((beguinagelaw05_awake.f).bind fun t124 => (some t124)) else (some false))) else (some false))) else (some false))) else (some false)))) = some r := H
                have A19 := Aside0.mk A190
                clear A190
                by_cases c20 : t119 = true
                · subst c20
                  have H1 : (some false) = some r := by rw [if_pos rfl] at H; exact H
                  clear H
                  have H := H1
                  clear H1
                  obtain rfl := Option.some.inj H
                  exact absurd hr_.out (by simp)
                · replace c20 := Bool.eq_false_iff.mpr c20
                  subst c20
                  have H1 : ((geom_Room.f (wrap64 (48 + (wrap64 (8 * (wrap64 (32 + t109)))))) (wrap64 (32 + t109)) t110 0 0 0 0 0 0).bind fun t120 => (if t120 = (wrap64 ((mx (wrap64 (t110 - 4)) 0) * (wrap64 (Int.tdiv (wrap64 (32 + t109)) 4)))) then ((geom_SlotAt.f 0 0).bind fun t121 => (if t121 = 0 then ((geom_SlotAt.f 16 1).bind fun t122 => (if t122 = 47 then ((geom_SlotAt.f 17 0).bind fun t123 => (if t123 = 0 then ((beguinagelaw05_awake.f).bind fun t124 => (some t124)) else (some false))) else (some false))) else (some false))) else (some false))) = some r := by rw [if_neg (show ¬ (false = true) by decide)] at H; exact H
                  clear H
                  have H := H1
                  clear H1
                  replace H := Option.bind_eq_some_iff.mp H
                  obtain ⟨t120, A210, H⟩ := H
                  replace H : (if t120 = (wrap64 ((mx (wrap64 (t110 - 4)) 0) * (wrap64 (Int.tdiv (wrap64 (32 + t109)) 4)))) then ((geom_SlotAt.f 0 0).bind fun t121 => (if t121 = 0 then ((geom_SlotAt.f 16 1).bind fun t122 => (if t122 = 47 then ((geom_SlotAt.f 17 0).bind fun t123 => (if t123 = 0 then ((beguinagelaw05_awake.f).bind fun t124 => (some t124)) else (some false))) else (some false))) else (some false))) else (some false)) = some r := H
                  have A21 := Aside0.mk A210
                  clear A210
                  obtain ⟨ji22, hji22⟩ : ∃ j_ : Int, (mx (wrap64 (t110 - 4)) 0) = j_ := ⟨_, rfl⟩
                  replace H : (if t120 = (wrap64 ((ji22) * (wrap64 (Int.tdiv (wrap64 (32 + t109)) 4)))) then ((geom_SlotAt.f 0 0).bind fun t121 => (if t121 = 0 then ((geom_SlotAt.f 16 1).bind fun t122 => (if t122 = 47 then ((geom_SlotAt.f 17 0).bind fun t123 => (if t123 = 0 then ((beguinagelaw05_awake.f).bind fun t124 => (some t124)) else (some false))) else (some false))) else (some false))) else (some false)) = some r := by first | (rw [hji22] at H; exact H) | (simp only [hji22] at H ⊢; exact H)
                  (try rw [hji22] at A3)
                  (try rw [hji22] at A4)
                  (try rw [hji22] at A5)
                  (try rw [hji22] at A7)
                  (try rw [hji22] at A9)
                  (try rw [hji22] at A11)
                  (try rw [hji22] at A13)
                  (try rw [hji22] at A15)
                  (try rw [hji22] at A17)
                  (try rw [hji22] at A19)
                  (try rw [hji22] at A21)
                  (try (have hji22l : 0 ≤ ji22 := by (rw [← hji22]; unfold mx; (repeat' split) <;> omega)))
                  (try (have hji22m : 0 ≤ ji22 := by omega))
                  have hji22_ : (if (wrap64 (t110 - 4)) < 0 then 0 else (wrap64 (t110 - 4))) = ji22 := hji22
                  by_cases c23 : t120 = (wrap64 ((ji22) * (wrap64 (Int.tdiv (wrap64 (32 + t109)) 4))))
                  · rw [if_pos c23] at H
                    have c23b0 : (t120 == (wrap64 ((ji22) * (wrap64 (Int.tdiv (wrap64 (32 + t109)) 4))))) = true := beq_iff_eq.mpr c23
                    have c23b1 : (t120 != (wrap64 ((ji22) * (wrap64 (Int.tdiv (wrap64 (32 + t109)) 4))))) = false := bne_eq_false_iff_eq.mpr c23
                    clear c23
                    replace H := Option.bind_eq_some_iff.mp H
                    obtain ⟨t121, A240, H⟩ := H
                    replace H : (if t121 = 0 then ((geom_SlotAt.f 16 1).bind fun t122 => (if t122 = 47 then ((geom_SlotAt.f 17 0).bind fun t123 => (if t123 = 0 then ((beguinagelaw05_awake.f).bind fun t124 => (some t124)) else (some false))) else (some false))) else (some false)) = some r := H
                    have A24 := Aside0.mk A240
                    clear A240
                    by_cases c25 : t121 = 0
                    · rw [if_pos c25] at H
                      have c25b0 : (t121 == 0) = true := beq_iff_eq.mpr c25
                      have c25b1 : (t121 != 0) = false := bne_eq_false_iff_eq.mpr c25
                      clear c25
                      replace H := Option.bind_eq_some_iff.mp H
                      obtain ⟨t122, A260, H⟩ := H
                      replace H : (if t122 = 47 then ((geom_SlotAt.f 17 0).bind fun t123 => (if t123 = 0 then ((beguinagelaw05_awake.f).bind fun t124 => (some t124)) else (some false))) else (some false)) = some r := H
                      have A26 := Aside0.mk A260
                      clear A260
                      by_cases c27 : t122 = 47
                      · rw [if_pos c27] at H
                        have c27b0 : (t122 == 47) = true := beq_iff_eq.mpr c27
                        have c27b1 : (t122 != 47) = false := bne_eq_false_iff_eq.mpr c27
                        clear c27
                        replace H := Option.bind_eq_some_iff.mp H
                        obtain ⟨t123, A280, H⟩ := H
                        replace H : (if t123 = 0 then ((beguinagelaw05_awake.f).bind fun t124 => (some t124)) else (some false)) = some r := H
                        have A28 := Aside0.mk A280
                        clear A280
                        by_cases c29 : t123 = 0
                        · rw [if_pos c29] at H
                          have c29b0 : (t123 == 0) = true := beq_iff_eq.mpr c29
                          have c29b1 : (t123 != 0) = false := bne_eq_false_iff_eq.mpr c29
                          clear c29
                          replace H := Option.bind_eq_some_iff.mp H
                          obtain ⟨t124, A300, H⟩ := H
                          replace H : (some t124) = some r := H
                          have A30 := Aside0.mk A300
                          clear A300
                          obtain rfl := Option.some.inj H
                          go_enter Try.func3, Try.ntmps3
                          go_wp2_with (first | (go_at_call 14; (with_reducible refine (beguinagelaw00_Place.calls a0 33 t109 _ A3.out).mono ?_); rintro e w' ⟨rfl, ⟨nd, rfl⟩⟩) | (go_at_call 14; (with_reducible refine (beguinagelaw00_Place.calls a1 60 t110 _ A4.out).mono ?_); rintro e w' ⟨rfl, ⟨nd, rfl⟩⟩) | ((with_reducible refine gate_dst (N := 8) rfl ?_); (try (refine gate_guard (by rfl) ?_; dsimp only)); refine box_event ?hg (N := 8) ?hd (cs := #[.int .i64 0, .int .i64 0]) (t := 24) ?hr ?_; (case hd => rfl); (case hg => rfl); (case hr => first | (go_simp; done) | (go_simp; rfl)); intro gb111 hg w31 hbox hb; have n0_ := Aside0.mk (below_step (by repeat (first | (with_reducible first | exact HB.out | apply below_alloc | apply pw_below_drewN | apply below_drew1) | exact HB.out)) hb); have n1_ := Aside0.mk (hbox); have n2_ := Aside0.mk ((by rw [hg]; exact (below_size (by repeat (first | (with_reducible first | exact HB.out | apply below_alloc | apply pw_below_drewN | apply below_drew1) | exact HB.out))) : w.heap.size ≤ gb111)); have n3_ := Aside0.mk ((by rw [hg]; exact (below_size (by repeat (first | (with_reducible first | exact HB.out | apply below_alloc | apply pw_below_drewN | apply below_drew1) | exact HB.out))) : w.heap.size ≤ gb111)); clear HB; have HB := n0_; have BK111 := n1_; have GW111 := n2_; have GE111 := n3_; clear n0_ n1_ n2_ n3_; clear hb hbox hg; have hcz32_0 : w31.cell? ⟨gb111, 0, none⟩ = some (.int .i64 0) := (blk_cell BK111.out 0).trans rfl; have hcz32_1 : w31.cell? ⟨gb111, 1, none⟩ = some (.int .i64 0) := (blk_cell BK111.out 1).trans rfl; have hfz32_0 := blk_frozen BK111.out 0; have hfz32_1 := blk_frozen BK111.out 1) | (go_at_call 15; (with_reducible refine (geom_Check.calls (wrap64 (48 + (wrap64 (8 * (wrap64 (32 + t109)))))) (wrap64 (32 + t109)) true _ A5.out).mono ?_); rintro e w33 ⟨rfl, hb⟩; have n0_ := Aside0.mk (blk_below (g := gb111) (o := .cells #[.int .i64 (wrap64 (48 + (wrap64 (8 * (wrap64 (32 + t109)))))), .int .i64 (wrap64 (32 + t109))] 24 (0, 0)) (by (with_reducible repeat (first | refine blk_drewN ?_ _ | refine blk_drew ?_ | refine blk_alloc ?_ _)); refine blk_put (cs := #[.int .i64 (wrap64 (48 + (wrap64 (8 * (wrap64 (32 + t109)))))), .int .i64 0]) ?_ 1 _ rfl; (with_reducible repeat (first | refine blk_drewN ?_ _ | refine blk_drew ?_ | refine blk_alloc ?_ _)); refine blk_put (cs := #[.int .i64 0, .int .i64 0]) ?_ 0 _ rfl; (with_reducible repeat (first | refine blk_drewN ?_ _ | refine blk_drew ?_ | refine blk_alloc ?_ _)); exact BK111.out) hb); have n1_ := Aside0.mk (below_step (by repeat (first | (with_reducible first | exact HB.out | apply below_alloc | apply pw_below_drewN | apply below_drew1 | refine below_set ?_ GE111.out) | exact HB.out)) hb); clear BK111; clear HB; have BK111 := n0_; have HB := n1_; clear n0_ n1_; (try clear hb); (try clear hb2); (try clear hk); (try clear hi); have hcz34_0 : w33.cell? ⟨gb111, 0, none⟩ = some (.int .i64 (wrap64 (48 + (wrap64 (8 * (wrap64 (32 + t109))))))) := (blk_cell BK111.out 0).trans rfl; have hcz34_1 : w33.cell? ⟨gb111, 1, none⟩ = some (.int .i64 (wrap64 (32 + t109))) := (blk_cell BK111.out 1).trans rfl; have hfz34_0 := blk_frozen BK111.out 0; have hfz34_1 := blk_frozen BK111.out 1) | (go_at_call 16; (with_reducible refine (geom_Segs.calls (wrap64 (48 + (wrap64 (8 * (wrap64 (32 + t109)))))) (wrap64 (32 + t109)) t113 _ A7.out).mono ?_); rintro e w35 ⟨rfl, hb⟩; have n0_ := Aside0.mk (blk_below (g := gb111) (o := .cells #[.int .i64 (wrap64 (48 + (wrap64 (8 * (wrap64 (32 + t109)))))), .int .i64 (wrap64 (32 + t109))] 24 (0, 0)) (by (with_reducible repeat (first | refine blk_drewN ?_ _ | refine blk_drew ?_ | refine blk_alloc ?_ _)); exact BK111.out) hb); have n1_ := Aside0.mk (below_step (by repeat (first | (with_reducible first | exact HB.out | apply below_alloc | apply pw_below_drewN | apply below_drew1 | refine below_set ?_ GE111.out) | exact HB.out)) hb); clear BK111; clear HB; have BK111 := n0_; have HB := n1_; clear n0_ n1_; (try clear hb); (try clear hb2); (try clear hk); (try clear hi)) | (go_at_call 15; (with_reducible refine (geom_Check.calls (wrap64 ((wrap64 (48 + (wrap64 (8 * (wrap64 (32 + t109)))))) - 1)) (wrap64 (32 + t109)) false _ A9.out).mono ?_); rintro e w36 ⟨rfl, hb⟩; have n0_ := Aside0.mk (blk_below (g := gb111) (o := .cells #[.int .i64 (wrap64 (48 + (wrap64 (8 * (wrap64 (32 + t109)))))), .int .i64 (wrap64 (32 + t109))] 24 (0, 0)) (by (with_reducible repeat (first | refine blk_drewN ?_ _ | refine blk_drew ?_ | refine blk_alloc ?_ _)); exact BK111.out) hb); have n1_ := Aside0.mk (below_step (by repeat (first | (with_reducible first | exact HB.out | apply below_alloc | apply pw_below_drewN | apply below_drew1 | refine below_set ?_ GE111.out) | exact HB.out)) hb); clear BK111; clear HB; have BK111 := n0_; have HB := n1_; clear n0_ n1_; (try clear hb); (try clear hb2); (try clear hk); (try clear hi)) | (go_at_call 16; (with_reducible refine (geom_Segs.calls (wrap64 ((wrap64 (48 + (wrap64 (8 * (wrap64 (32 + t109)))))) - 1)) (wrap64 (32 + t109)) t115 _ A11.out).mono ?_); rintro e w37 ⟨rfl, hb⟩; have n0_ := Aside0.mk (blk_below (g := gb111) (o := .cells #[.int .i64 (wrap64 (48 + (wrap64 (8 * (wrap64 (32 + t109)))))), .int .i64 (wrap64 (32 + t109))] 24 (0, 0)) (by (with_reducible repeat (first | refine blk_drewN ?_ _ | refine blk_drew ?_ | refine blk_alloc ?_ _)); exact BK111.out) hb); have n1_ := Aside0.mk (below_step (by repeat (first | (with_reducible first | exact HB.out | apply below_alloc | apply pw_below_drewN | apply below_drew1 | refine below_set ?_ GE111.out) | exact HB.out)) hb); clear BK111; clear HB; have BK111 := n0_; have HB := n1_; clear n0_ n1_; (try clear hb); (try clear hb2); (try clear hk); (try clear hi)) | (go_at_call 15; (with_reducible refine (geom_Check.calls 16384 (wrap64 (32 + t109)) true _ A13.out).mono ?_); rintro e w38 ⟨rfl, hb⟩; have n0_ := Aside0.mk (blk_below (g := gb111) (o := .cells #[.int .i64 (wrap64 (48 + (wrap64 (8 * (wrap64 (32 + t109)))))), .int .i64 (wrap64 (32 + t109))] 24 (0, 0)) (by (with_reducible repeat (first | refine blk_drewN ?_ _ | refine blk_drew ?_ | refine blk_alloc ?_ _)); exact BK111.out) hb); have n1_ := Aside0.mk (below_step (by repeat (first | (with_reducible first | exact HB.out | apply below_alloc | apply pw_below_drewN | apply below_drew1 | refine below_set ?_ GE111.out) | exact HB.out)) hb); clear BK111; clear HB; have BK111 := n0_; have HB := n1_; clear n0_ n1_; (try clear hb); (try clear hb2); (try clear hk); (try clear hi)) | (go_at_call 15; (with_reducible refine (geom_Check.calls 16385 (wrap64 (32 + t109)) false _ A15.out).mono ?_); rintro e w39 ⟨rfl, hb⟩; have n0_ := Aside0.mk (blk_below (g := gb111) (o := .cells #[.int .i64 (wrap64 (48 + (wrap64 (8 * (wrap64 (32 + t109)))))), .int .i64 (wrap64 (32 + t109))] 24 (0, 0)) (by (with_reducible repeat (first | refine blk_drewN ?_ _ | refine blk_drew ?_ | refine blk_alloc ?_ _)); exact BK111.out) hb); have n1_ := Aside0.mk (below_step (by repeat (first | (with_reducible first | exact HB.out | apply below_alloc | apply pw_below_drewN | apply below_drew1 | refine below_set ?_ GE111.out) | exact HB.out)) hb); clear BK111; clear HB; have BK111 := n0_; have HB := n1_; clear n0_ n1_; (try clear hb); (try clear hb2); (try clear hk); (try clear hi)) | (go_at_call 15; (with_reducible refine (geom_Check.calls (wrap64 (48 + (wrap64 (8 * (wrap64 (32 + t109)))))) 31 false _ A17.out).mono ?_); rintro e w40 ⟨rfl, hb⟩; have n0_ := Aside0.mk (blk_below (g := gb111) (o := .cells #[.int .i64 (wrap64 (48 + (wrap64 (8 * (wrap64 (32 + t109)))))), .int .i64 (wrap64 (32 + t109))] 24 (0, 0)) (by (with_reducible repeat (first | refine blk_drewN ?_ _ | refine blk_drew ?_ | refine blk_alloc ?_ _)); exact BK111.out) hb); have n1_ := Aside0.mk (below_step (by repeat (first | (with_reducible first | exact HB.out | apply below_alloc | apply pw_below_drewN | apply below_drew1 | refine below_set ?_ GE111.out) | exact HB.out)) hb); clear BK111; clear HB; have BK111 := n0_; have HB := n1_; clear n0_ n1_; (try clear hb); (try clear hb2); (try clear hk); (try clear hi)) | (go_at_call 15; (with_reducible refine (geom_Check.calls 16384 65 false _ A19.out).mono ?_); rintro e w41 ⟨rfl, hb⟩; have n0_ := Aside0.mk (blk_below (g := gb111) (o := .cells #[.int .i64 (wrap64 (48 + (wrap64 (8 * (wrap64 (32 + t109)))))), .int .i64 (wrap64 (32 + t109))] 24 (0, 0)) (by (with_reducible repeat (first | refine blk_drewN ?_ _ | refine blk_drew ?_ | refine blk_alloc ?_ _)); exact BK111.out) hb); have n1_ := Aside0.mk (below_step (by repeat (first | (with_reducible first | exact HB.out | apply below_alloc | apply pw_below_drewN | apply below_drew1 | refine below_set ?_ GE111.out) | exact HB.out)) hb); clear BK111; clear HB; have BK111 := n0_; have HB := n1_; clear n0_ n1_; (try clear hb); (try clear hb2); (try clear hk); (try clear hi); have hcz42_0 : w41.cell? ⟨gb111, 0, none⟩ = some (.int .i64 (wrap64 (48 + (wrap64 (8 * (wrap64 (32 + t109))))))) := (blk_cell BK111.out 0).trans rfl; have hcz42_1 : w41.cell? ⟨gb111, 1, none⟩ = some (.int .i64 (wrap64 (32 + t109))) := (blk_cell BK111.out 1).trans rfl; have hfz42_0 := blk_frozen BK111.out 0; have hfz42_1 := blk_frozen BK111.out 1) | (go_at_call 17; (with_reducible refine (geom_Room.calls (wrap64 (48 + (wrap64 (8 * (wrap64 (32 + t109)))))) (wrap64 (32 + t109)) t110 0 0 0 0 0 0 t120 _ A21.out).mono ?_); rintro e w43 ⟨rfl, hb⟩; have n0_ := Aside0.mk (blk_below (g := gb111) (o := .cells #[.int .i64 (wrap64 (48 + (wrap64 (8 * (wrap64 (32 + t109)))))), .int .i64 (wrap64 (32 + t109))] 24 (0, 0)) (by (with_reducible repeat (first | refine blk_drewN ?_ _ | refine blk_drew ?_ | refine blk_alloc ?_ _)); exact BK111.out) hb); have n1_ := Aside0.mk (below_step (by repeat (first | (with_reducible first | exact HB.out | apply below_alloc | apply pw_below_drewN | apply below_drew1 | refine below_set ?_ GE111.out) | exact HB.out)) hb); clear BK111; clear HB; have BK111 := n0_; have HB := n1_; clear n0_ n1_; (try clear hb); (try clear hb2); (try clear hk); (try clear hi)) | (go_at_call 18; (with_reducible refine (geom_SlotAt.calls 0 0 t121 _ A24.out).mono ?_); rintro e w' ⟨rfl, ⟨nd, rfl⟩⟩) | (go_at_call 18; (with_reducible refine (geom_SlotAt.calls 16 1 t122 _ A26.out).mono ?_); rintro e w' ⟨rfl, ⟨nd, rfl⟩⟩) | (go_at_call 18; (with_reducible refine (geom_SlotAt.calls 17 0 t123 _ A28.out).mono ?_); rintro e w' ⟨rfl, ⟨nd, rfl⟩⟩) | (go_at_call 19; (with_reducible refine (beguinagelaw05_awake.calls  t124 _ A30.out).mono ?_); rintro e w44 ⟨rfl, hb⟩; have n0_ := Aside0.mk (blk_below (g := gb111) (o := .cells #[.int .i64 (wrap64 (48 + (wrap64 (8 * (wrap64 (32 + t109)))))), .int .i64 (wrap64 (32 + t109))] 24 (0, 0)) (by (with_reducible repeat (first | refine blk_drewN ?_ _ | refine blk_drew ?_ | refine blk_alloc ?_ _)); exact BK111.out) hb); have n1_ := Aside0.mk (below_step (by repeat (first | (with_reducible first | exact HB.out | apply below_alloc | apply pw_below_drewN | apply below_drew1 | refine below_set ?_ GE111.out) | exact HB.out)) hb); clear BK111; clear HB; have BK111 := n0_; have HB := n1_; clear n0_ n1_; (try clear hb); (try clear hb2); (try clear hk); (try clear hi)))
                          go_ret
                          exact ⟨by first | rfl | (simp [errW_none, errW_some] <;> rfl) | (simp only [← hji22]; first | rfl | (simp [errW_none, errW_some] <;> rfl)) | (simp [*, errW_none, errW_some] <;> rfl), by repeat (first | (with_reducible first | exact HB.out | apply below_alloc | apply pw_below_drewN | apply below_drew1 | refine below_set ?_ GE111.out) | exact HB.out)⟩
                        · rw [if_neg c29] at H
                          have c29b0 : (t123 == 0) = false := beq_eq_false_iff_ne.mpr c29
                          have c29b1 : (t123 != 0) = true := bne_iff_ne.mpr c29
                          obtain rfl := Option.some.inj H
                          exact absurd hr_.out (by simp)
                      · rw [if_neg c27] at H
                        have c27b0 : (t122 == 47) = false := beq_eq_false_iff_ne.mpr c27
                        have c27b1 : (t122 != 47) = true := bne_iff_ne.mpr c27
                        obtain rfl := Option.some.inj H
                        exact absurd hr_.out (by simp)
                    · rw [if_neg c25] at H
                      have c25b0 : (t121 == 0) = false := beq_eq_false_iff_ne.mpr c25
                      have c25b1 : (t121 != 0) = true := bne_iff_ne.mpr c25
                      obtain rfl := Option.some.inj H
                      exact absurd hr_.out (by simp)
                  · rw [if_neg c23] at H
                    have c23b0 : (t120 == (wrap64 ((ji22) * (wrap64 (Int.tdiv (wrap64 (32 + t109)) 4))))) = false := beq_eq_false_iff_ne.mpr c23
                    have c23b1 : (t120 != (wrap64 ((ji22) * (wrap64 (Int.tdiv (wrap64 (32 + t109)) 4))))) = true := bne_iff_ne.mpr c23
                    obtain rfl := Option.some.inj H
                    exact absurd hr_.out (by simp)
          · replace c14 := Bool.eq_false_iff.mpr c14
            subst c14
            have H1 : (some false) = some r := by rw [if_neg (show ¬ (false = true) by decide)] at H; exact H
            clear H
            have H := H1
            clear H1
            obtain rfl := Option.some.inj H
            exact absurd hr_.out (by simp)
        · rw [if_neg c12] at H
          have c12b0 : (t115 == 0) = false := beq_eq_false_iff_ne.mpr c12
          have c12b1 : (t115 != 0) = true := bne_iff_ne.mpr c12
          obtain rfl := Option.some.inj H
          exact absurd hr_.out (by simp)
    · rw [if_neg c8] at H
      have c8b0 : (t113 == 8) = false := beq_eq_false_iff_ne.mpr c8
      have c8b1 : (t113 != 8) = true := bne_iff_ne.mpr c8
      obtain rfl := Option.some.inj H
      exact absurd hr_.out (by simp)
  · replace c6 := Bool.eq_false_iff.mpr c6
    subst c6
    have H1 : (some false) = some r := by rw [if_neg (show ¬ (false = true) by decide)] at H; exact H
    clear H
    have H := H1
    clear H1
    obtain rfl := Option.some.inj H
    exact absurd hr_.out (by simp)

/-- THE ONE PURE STATEMENT of beguinagelaw05_GeomEdges: yours. -/
def beguinagelaw05_GeomEdges.Pure : Prop := ∀ (a0 : Int) (a1 : Int), (Lit.int .i64 a0).wf = true → (Lit.int .i64 a1).wf = true → beguinagelaw05_GeomEdges.f a0 a1 = some true
theorem beguinagelaw05_GeomEdges.walk (P : beguinagelaw05_GeomEdges.Pure) (a0 : Int) (a1 : Int) (w : World) (w0 : (Lit.int .i64 a0).wf = true) (w1 : (Lit.int .i64 a1).wf = true) :
    Calls Try.prog 3 #[.int .i64 a0, .int .i64 a1] w fun e w' => e = .returned (.bool true) ∧ Below w.heap.size w w' := by
  have h := P a0 a1 w0 w1
  refine (beguinagelaw05_GeomEdges.calls a0 a1 true w h ⟨rfl⟩).mono ?_
  rintro e w' ⟨rfl, hd⟩
  exact ⟨rfl, hd⟩

end Go.Proofs.Ytmjkkkllmpagpaa.PGeom
