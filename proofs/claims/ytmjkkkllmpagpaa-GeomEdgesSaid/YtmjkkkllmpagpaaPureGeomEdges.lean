/- GeomEdges, the plain law: at every seg and segs the printed function of the statement answers true. Conditions: none beyond that the two numbers are int's. -/
import Derived.Test.YtmjkkkllmpagpaaPGeomx7
import Derived.Test.YtmjkkkllmpagpaaAid
namespace Go.Proofs.Ytmjkkkllmpagpaa.Pure
open Go.RowKit Go.Proofs.Ytmjkkkllmpagpaa.PGeom Go.Proofs.YtmjkkkllmpagpaaW.PrintWords Go.Proofs.YtmjkkkllmpagpaaW.PrintLast
open Go.Proofs.Ytmjkkkllmpagpaa.Aid
set_option linter.unusedVariables false
set_option linter.unusedSimpArgs false

theorem ge_place (a : Int) {n : Int} (h0 : 0 < n) (h1 : n ≤ 9223372036854775807) : beguinagelaw00_Place.f a n = some (a % n) := place a h0 h1

theorem GeomEdges : beguinagelaw05_GeomEdges.Pure := by
  intro a0 a1 w0 w1
  have h0 := Int.emod_nonneg a0 (show (33 : Int) ≠ 0 by omega)
  have h1 := Int.emod_lt_of_pos a0 (show (0 : Int) < 33 by omega)
  have h2 := Int.emod_nonneg a1 (show (60 : Int) ≠ 0 by omega)
  have h3 := Int.emod_lt_of_pos a1 (show (0 : Int) < 60 by omega)
  unfold beguinagelaw05_GeomEdges.f
  rw [ge_place a0 (by omega) (by omega), ge_place a1 (by omega) (by omega)]
  generalize a0 % 33 = s at *
  generalize a1 % 60 = n at *
  have e1 : wrap64 (32 + s) = 32 + s := w64 (by omega) (by omega)
  have e2 : wrap64 (8 * (32 + s)) = 8 * (32 + s) := w64 (by omega) (by omega)
  have e3 : wrap64 (48 + 8 * (32 + s)) = 48 + 8 * (32 + s) := w64 (by omega) (by omega)
  have e4 : wrap64 (48 + 8 * (32 + s) - 1) = 48 + 8 * (32 + s) - 1 := w64 (by omega) (by omega)
  have e5 : wrap64 (n - 4) = n - 4 := w64 (by omega) (by omega)
  have e6 : Int.tdiv (32 + s) 4 = (32 + s) / 4 := tdiv_pos' _ (by omega)
  have e7 : wrap64 ((32 + s) / 4) = (32 + s) / 4 := w64 (by omega) (by omega)
  have e8 : mx (mn n 1099511627776) 4 - 4 = mx (n - 4) 0 := by unfold mx mn; omega
  have c1 : geom_Check.f (48 + 8 * (32 + s)) (32 + s) = some true := by
    unfold geom_Check.f
    rw [if_pos (by omega), if_pos (by omega), if_pos (by omega), e2, e3, decide_eq_true (by omega)]
  have c2 : geom_Check.f (48 + 8 * (32 + s) - 1) (32 + s) = some false := by
    unfold geom_Check.f
    rw [if_pos (by omega), if_pos (by omega), if_pos (by omega), e2, e3, decide_eq_false (by omega)]
  have c3 : geom_Check.f 16384 (32 + s) = some true := by
    unfold geom_Check.f
    rw [if_pos (by omega), if_pos (by omega), if_pos (by omega), e2, e3, decide_eq_true (by omega)]
  have c4 : geom_Check.f 16385 (32 + s) = some false := by
    unfold geom_Check.f
    rw [if_pos (by omega), if_pos (by omega), if_neg (by omega)]
  have c5 : geom_Check.f (48 + 8 * (32 + s)) 31 = some false := by unfold geom_Check.f; rw [if_neg (by omega)]
  have c6 : geom_Check.f 16384 65 = some false := by decide +kernel
  have g1 : geom_Segs.f (48 + 8 * (32 + s)) (32 + s) = some 8 := by
    unfold geom_Segs.f
    rw [c1]
    simp only [Option.bind_some, if_true]
    rw [if_neg (by omega), w64 (x := 48 + 8 * (32 + s) - 48) (by omega) (by omega), tdiv_pos' _ (by omega)]
    have : (48 + 8 * (32 + s) - 48) / (32 + s) = 8 := by
      have : 48 + 8 * (32 + s) - 48 = 8 * (32 + s) := by omega
      rw [this, Int.mul_ediv_cancel _ (by omega)]
    rw [this, w64 (by omega) (by omega)]
  have g2 : geom_Segs.f (48 + 8 * (32 + s) - 1) (32 + s) = some 0 := by
    unfold geom_Segs.f
    rw [c2]; rfl
  have r1 : geom_Room.f (48 + 8 * (32 + s)) (32 + s) n 0 0 0 0 0 0 = some (wrap64 (mx (n - 4) 0 * ((32 + s) / 4))) := by
    unfold geom_Room.f
    rw [c1]
    simp only [Option.bind_some, if_true]
    rw [e8, e6, e7]
  have s1 : geom_SlotAt.f 0 0 = some 0 := by decide +kernel
  have s2 : geom_SlotAt.f 16 1 = some 47 := by decide +kernel
  have s3 : geom_SlotAt.f 17 0 = some 0 := by decide +kernel
  have aw : beguinagelaw05_awake.f = some true := by decide +kernel
  simp only [Option.bind_some, e1, e2, e3, e4, e5, e6, e7, c1, c2, c3, c4, c5, c6, g1, g2, r1, if_true, s1, s2, s3, aw]
  rfl

end Go.Proofs.Ytmjkkkllmpagpaa.Pure
