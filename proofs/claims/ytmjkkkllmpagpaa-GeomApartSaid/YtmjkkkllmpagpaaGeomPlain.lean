/- Plain lemmas: what geom's functions answer on a disk of n segments of L sectors and r more; a row of 64 marks. No memory but the row is in sight. -/
import Derived.Test.YtmjkkkllmpagpaaPGeomx1
import Derived.Test.YtmjkkkllmpagpaaPGeomx5
import Derived.Test.YtmjkkkllmpagpaaPGeomx6
import Derived.Test.YtmjkkkllmpagpaaPGeomx8
import Derived.Test.YtmjkkkllmpagpaaPGeomx9
import Derived.Test.YtmjkkkllmpagpaaAid
import Derived.Deep.WholeRow
import Derived.Outline
import Derived.Deep.RegionHeld3
namespace Go.Proofs.Ytmjkkkllmpagpaa.PGeom
open Go.RowKit Go.Proofs.YtmjkkkllmpagpaaW.PrintWords Go.Proofs.YtmjkkkllmpagpaaW.PrintLast Go.Proofs.YtmjkkkllmpagpaaW.PrintMore
open Go.Proofs.Ytmjkkkllmpagpaa.Aid
set_option linter.unusedVariables false
set_option linter.unusedSimpArgs false

/-- A disk of n segments of L sectors, m = n * L, and r sectors more. -/
structure Disk (n L m r : Int) : Prop where
  n0 : 8 ≤ n
  n1 : n ≤ 37
  l0 : 32 ≤ L
  l1 : L ≤ 64
  m0 : 8 * L ≤ m
  m1 : m ≤ 2368
  r0 : 0 ≤ r
  r1 : r < L
  mm : m = n * L
theorem Disk.mk' {n L r : Int} (n0 : 8 ≤ n) (n1 : n ≤ 37) (l0 : 32 ≤ L) (l1 : L ≤ 64) (r0 : 0 ≤ r) (r1 : r < L) : Disk n L (n * L) r :=
  ⟨n0, n1, l0, l1, Int.mul_le_mul_of_nonneg_right n0 (by omega), by
    have h1 : n * L ≤ 37 * L := Int.mul_le_mul_of_nonneg_right n1 (by omega)
    omega, r0, r1, rfl⟩
variable {n L m r : Int}
theorem Disk.check (D : Disk n L m r) : geom_Check.f (48 + m + r) L = some true := by
  have := D.n0; have := D.n1; have := D.l0; have := D.l1; have := D.m0; have := D.m1; have := D.r0; have := D.r1
  unfold geom_Check.f
  rw [if_pos (by omega), if_pos (by omega), if_pos (by omega), w64 (x := 8 * L) (by omega) (by omega), w64 (by omega) (by omega), decide_eq_true (by omega)]
theorem Disk.segs (D : Disk n L m r) : geom_Segs.f (48 + m + r) L = some n := by
  have := D.n0; have := D.n1; have := D.l0; have := D.l1; have := D.m0; have := D.m1; have := D.r0; have := D.r1
  unfold geom_Segs.f
  have e : Int.tdiv (m + r) L = n := by
    rw [Int.tdiv_eq_ediv_of_nonneg (by omega), D.mm, Int.add_comm, Int.add_mul_ediv_right _ _ (by omega), Int.ediv_eq_zero_of_lt D.r0 D.r1]; omega
  rw [D.check, Option.bind_some, if_pos rfl, if_neg (by omega), w64 (x := 48 + m + r - 48) (by omega) (by omega), show 48 + m + r - 48 = m + r by omega, e, w64 (by omega) (by omega)]
theorem Disk.seg_le (D : Disk n L m r) {s : Int} (s0 : 0 ≤ s) (s1 : s < n) : 0 ≤ s * L ∧ s * L + L ≤ m := by
  have := D.l0
  have h1 : (s + 1) * L ≤ n * L := Int.mul_le_mul_of_nonneg_right (by omega) (by omega)
  rw [Int.add_mul, Int.one_mul, ← D.mm] at h1
  exact ⟨Int.mul_nonneg s0 (by omega), h1⟩
theorem Disk.start (D : Disk n L m r) {s : Int} (s0 : 0 ≤ s) (s1 : s < n) : geom_Start.f (48 + m + r) L s = some (48 + s * L) := by
  have := D.m1
  have := D.l0
  obtain ⟨h0, h1⟩ := D.seg_le s0 s1
  unfold geom_Start.f
  rw [if_neg (by omega), D.segs, Option.bind_some, if_neg (by omega), w64 (x := s * L) (by omega) (by omega), w64 (by omega) (by omega)]
theorem Disk.start_out (D : Disk n L m r) : geom_Start.f (48 + m + r) L n = some 0 ∧ geom_Start.f (48 + m + r) L (-1) = some 0 := by
  have := D.n0
  unfold geom_Start.f
  constructor
  · rw [if_neg (by omega), D.segs, Option.bind_some, if_pos (by omega)]
  · rw [if_pos (by omega)]
theorem Disk.at_in (D : Disk n L m r) {s q : Int} (s0 : 0 ≤ s) (s1 : s < n) (q0 : 0 ≤ q) (q1 : q < L) : geom_At.f (48 + m + r) L (48 + s * L + q) = some (s, q, true) := by
  have := D.n0; have := D.n1; have := D.l0; have := D.l1; have := D.m0; have := D.m1
  obtain ⟨h0, h1⟩ := D.seg_le s0 s1
  have e1 : Int.tdiv (s * L + q) L = s := by
    rw [Int.tdiv_eq_ediv_of_nonneg (by omega), Int.add_comm, Int.add_mul_ediv_right _ _ (by omega), Int.ediv_eq_zero_of_lt q0 q1]; omega
  have e2 : Int.tmod (s * L + q) L = q := by
    rw [Int.tmod_eq_emod_of_nonneg (by omega), Int.add_comm, Int.add_mul_emod_self_right, Int.emod_eq_of_lt q0 q1]
  unfold geom_At.f
  rw [if_neg (by omega), D.segs, Option.bind_some, ← D.mm, w64 (x := m) (by omega) (by omega), w64 (x := 48 + m) (by omega) (by omega), if_neg (by omega), if_neg (by omega), w64 (x := 48 + s * L + q - 48) (by omega) (by omega),
    show 48 + s * L + q - 48 = s * L + q by omega, e1, e2, w64 (by omega) (by omega)]
theorem Disk.at_low (D : Disk n L m r) {q : Int} (q0 : 0 ≤ q) : geom_At.f (48 + m + r) L (47 - q) = some (0, 0, false) := by
  unfold geom_At.f
  rw [if_pos (by omega)]
theorem Disk.at_high (D : Disk n L m r) {q : Int} (q0 : 0 ≤ q) : geom_At.f (48 + m + r) L (48 + m + q) = some (0, 0, false) := by
  have := D.n0; have := D.n1; have := D.l0; have := D.l1; have := D.m0; have := D.m1
  unfold geom_At.f
  rw [if_neg (by omega), D.segs, Option.bind_some, ← D.mm, w64 (x := m) (by omega) (by omega), w64 (x := 48 + m) (by omega) (by omega), if_pos (by omega)]
theorem slot_at (h c : Nat) (h0 : 1 ≤ h) (h1 : h ≤ 16) (c1 : c < 2) : geom_SlotAt.f (h : Int) (c : Int) = some ((14 + 2 * h + c : Nat) : Int) := by
  unfold geom_SlotAt.f
  rw [if_neg (by omega), if_neg (by omega), if_neg (by omega), if_neg (by omega), w64 (x := (h : Int) - 1) (by omega) (by omega), w64 (x := 2 * ((h : Int) - 1)) (by omega) (by omega), w64 (x := 16 + 2 * ((h : Int) - 1)) (by omega) (by omega), w64 (by omega) (by omega)]
  congr 1
  omega

/-- A row of 64 marks: those from 16 to k are set. -/
def marks (k : Nat) : List Bool := (List.range 64).map fun i => decide (16 ≤ i ∧ i < k)
theorem marks_len (k : Nat) : (marks k).length = 64 := by unfold marks; rw [List.length_map, List.length_range]
theorem marks_at (k j : Nat) (h : j < 64) : (marks k)[j]? = some (decide (16 ≤ j ∧ j < k)) := by
  unfold marks; rw [List.getElem?_map, List.getElem?_range h]; rfl
theorem marks_set (k : Nat) (h0 : 16 ≤ k) (h1 : k < 64) : (marks k).set k true = marks (k + 1) := by
  apply List.ext_getElem?
  intro j
  by_cases hj : j < 64
  · by_cases e : j = k
    · subst e
      rw [List.getElem?_set_self (by rw [marks_len]; exact h1), marks_at _ _ hj, decide_eq_true ⟨h0, by omega⟩]
    · rw [List.getElem?_set_ne (by omega), marks_at _ _ hj, marks_at _ _ hj]
      congr 1
      rw [decide_eq_decide]
      omega
  · rw [List.getElem?_eq_none (by rw [List.length_set, marks_len]; omega), List.getElem?_eq_none (by rw [marks_len]; omega)]
def bvals (L : List Bool) : Array Value := (L.map Value.bool).toArray
def Mk (w : World) (g : Nat) (k : Nat) : Prop := w.heap[g]? = some (.cells (bvals (marks k)) 51 (0, 0))
theorem bvals_at (k j : Nat) (h : j < 64) : (bvals (marks k))[j]? = some (.bool (decide (16 ≤ j ∧ j < k))) := by
  unfold bvals
  rw [List.getElem?_toArray, List.getElem?_map, marks_at k j h]
  rfl
theorem Mk.lt {w : World} {g k : Nat} (h : Mk w g k) : g < w.heap.size := (Array.getElem?_eq_some_iff.1 h).1
theorem Mk.cell {w : World} {g k : Nat} (h : Mk w g k) (j : Nat) (hj : j < 64) : w.cell? ⟨g, j, none⟩ = some (.bool (decide (16 ≤ j ∧ j < k))) := by
  rw [cell_of_row w g j _ _ _ h]
  exact bvals_at k j hj
theorem Mk.frozen {w : World} {g k : Nat} (h : Mk w g k) (j : Nat) : w.frozen? ⟨g, j, none⟩ = false := frozen_of_row w g j _ _ h
theorem Mk.below {w w' : World} {g k : Nat} (h : Mk w g k) (hb : Below w.heap.size w w') : Mk w' g k := (hb.block g h.lt).trans h
theorem Mk.set {w : World} {g k : Nat} (h : Mk w g k) (h0 : 16 ≤ k) (h1 : k < 64) : Mk (w.setCell ⟨g, k, none⟩ (.bool true)) g (k + 1) := by
  unfold Mk
  rw [heap_setCell_same w g k _ 51 _ h, ← marks_set k h0 h1]
  congr 2
  apply Array.ext_getElem?
  intro i
  simp [bvals, Array.getElem?_setIfInBounds, List.getElem?_set]
theorem Mk.unset {w : World} {g k : Nat} (h : Mk w g k) (h1 : k < 64) : w.cell? ⟨g, k, none⟩ = some (.bool false) := by
  rw [h.cell k h1, decide_eq_false (by omega)]
theorem info51 : (Try.prog.info? 51).map (fun i => (i.zero, i.size)) = some (some (.agg (bvals (marks 16))), 64) := by kernel_rfl
end Go.Proofs.Ytmjkkkllmpagpaa.PGeom
