/- GeomRooms, the plain law: at every seg, a and b the printed function of the statement answers true. Conditions: none beyond that the three numbers are int's. -/
import Derived.Test.YtmjkkkllmpagpaaPGeomRoomsx2
import Derived.Test.YtmjkkkllmpagpaaAid
namespace Go.Proofs.Ytmjkkkllmpagpaa.Pure
open Go.RowKit Go.Proofs.Ytmjkkkllmpagpaa.PGeomRooms Go.Proofs.YtmjkkkllmpagpaaW.PrintWords Go.Proofs.YtmjkkkllmpagpaaW.PrintLast
open Go.Proofs.Ytmjkkkllmpagpaa.Aid
set_option linter.unusedVariables false
set_option linter.unusedSimpArgs false

theorem gr_place (a : Int) {n : Int} (h0 : 0 < n) (h1 : n ≤ 9223372036854775807) : beguinagelaw00_Place.f a n = some (a % n) := place a h0 h1

theorem gr_room {s x : Int} (h0 : 0 ≤ s) (h1 : s < 33) (hx0 : -2000 ≤ x) (hx1 : x ≤ 2000) :
    geom_Room.f 16384 (32 + s) x 0 0 0 0 0 0 = some (mx (x - 4) 0 * ((32 + s) / 4)) := by
  have c : geom_Check.f 16384 (32 + s) = some true := by
    unfold geom_Check.f
    rw [if_pos (by omega), if_pos (by omega), if_pos (by omega), w64 (x := 8 * (32 + s)) (by omega) (by omega), w64 (x := 48 + 8 * (32 + s)) (by omega) (by omega), decide_eq_true (by omega)]
  have e8 : mx (mn x 1099511627776) 4 - 4 = mx (x - 4) 0 := by unfold mx mn; omega
  have hm : 0 ≤ mx (x - 4) 0 ∧ mx (x - 4) 0 ≤ 2000 := by unfold mx; omega
  have hb := mul_bd (a := mx (x - 4) 0) (b := (32 + s) / 4) (A := 2000) (B := 16) hm.1 hm.2 (by omega) (by omega)
  unfold geom_Room.f
  rw [c]
  simp only [Option.bind_some, if_true]
  rw [e8, tdiv_pos' _ (by omega), w64 (x := (32 + s) / 4) (by omega) (by omega), w64 (by omega) (by omega)]

theorem GeomRooms : beguinagelaw05_GeomRooms.Pure := by
  intro a0 a1 a2 w0 w1 w2
  have h0 := Int.emod_nonneg a0 (show (33 : Int) ≠ 0 by omega)
  have h1 := Int.emod_lt_of_pos a0 (show (0 : Int) < 33 by omega)
  have h2 := Int.emod_nonneg a1 (show (1000 : Int) ≠ 0 by omega)
  have h3 := Int.emod_lt_of_pos a1 (show (0 : Int) < 1000 by omega)
  have h4 := Int.emod_nonneg a2 (show (1000 : Int) ≠ 0 by omega)
  have h5 := Int.emod_lt_of_pos a2 (show (0 : Int) < 1000 by omega)
  unfold beguinagelaw05_GeomRooms.f
  rw [gr_place a0 (by omega) (by omega), gr_place a1 (by omega) (by omega), gr_place a2 (by omega) (by omega)]
  generalize a0 % 33 = s at *
  generalize a1 % 1000 = x at *
  generalize a2 % 1000 = y at *
  have e1 : wrap64 (32 + s) = 32 + s := w64 (by omega) (by omega)
  have e2 : wrap64 (4 + x) = 4 + x := w64 (by omega) (by omega)
  have e3 : wrap64 (4 + y) = 4 + y := w64 (by omega) (by omega)
  have e4 : wrap64 (4 + x - (4 + y)) = x - y := by rw [w64 (by omega) (by omega)]; omega
  have e5 : Int.tdiv (32 + s) 4 = (32 + s) / 4 := tdiv_pos' _ (by omega)
  have e6 : wrap64 ((32 + s) / 4) = (32 + s) / 4 := w64 (by omega) (by omega)
  have e7 : wrap64 (-(4 + x)) = -(4 + x) := w64 (by omega) (by omega)
  have r1 := gr_room (s := s) (x := 4 + x) (by omega) (by omega) (by omega) (by omega)
  have r2 := gr_room (s := s) (x := 4 + y) (by omega) (by omega) (by omega) (by omega)
  have r3 := gr_room (s := s) (x := 4) (by omega) (by omega) (by omega) (by omega)
  have r4 := gr_room (s := s) (x := -(4 + x)) (by omega) (by omega) (by omega) (by omega)
  have m1 : mx (4 + x - 4) 0 = x := by unfold mx; omega
  have m2 : mx (4 + y - 4) 0 = y := by unfold mx; omega
  have m3 : mx (4 - 4) 0 = 0 := by unfold mx; omega
  have m4 : mx (-(4 + x) - 4) 0 = 0 := by unfold mx; omega
  have c5 : geom_Check.f 5 32 = some false := by decide +kernel
  have r5 : geom_Room.f 5 32 (4 + x) 0 0 0 0 0 0 = some 0 := by unfold geom_Room.f; rw [c5]; rfl
  rw [m1] at r1
  rw [m2] at r2
  rw [m3, Int.zero_mul] at r3
  rw [m4, Int.zero_mul] at r4
  have b1 := mul_bd (a := x) (b := (32 + s) / 4) (A := 1000) (B := 16) (by omega) (by omega) (by omega) (by omega)
  have b2 := mul_bd (a := y) (b := (32 + s) / 4) (A := 1000) (B := 16) (by omega) (by omega) (by omega) (by omega)
  have e8 : wrap64 ((x - y) * ((32 + s) / 4)) = wrap64 (x * ((32 + s) / 4) - y * ((32 + s) / 4)) := by rw [Int.sub_mul]
  have aw : beguinagelaw05_awake.f = some true := by decide +kernel
  simp only [Option.bind_some, e1, e2, e3, e4, e5, e6, e7, e8, r1, r2, r3, r4, r5, if_true, aw]

end Go.Proofs.Ytmjkkkllmpagpaa.Pure
