/- The contract of the reference's Inds: it counts as span.Inds does. Conditions: none. -/
import Derived.Test.YtbdghlneiblkcaaSpanInds
import Derived.Test.YtbdghlneiblkcaaPSpanx13
import Derived.Deep.WholeRow
namespace Go.Proofs.Ytbdghlneiblkcaa.PSpan
open Go.RowKit Go.Maps Go.Proofs.YtbdghlneiblkcaaW.PrintWords Go.Proofs.YtbdghlneiblkcaaW.PrintLast Go.Proofs.YtbdghlneiblkcaaW.PrintMore
open Go.Proofs.Ytbdghlneiblkcaa.Aid
set_option linter.unusedVariables false
set_option linter.unusedSimpArgs false

/-- The nine marks. -/
def marks (l : List Int) : List Bool := [(kidsL l).contains 0, (kidsL l).contains 1, (kidsL l).contains 2, (kidsL l).contains 3, (kidsL l).contains 4, (kidsL l).contains 5, (kidsL l).contains 6, (kidsL l).contains 7, l.any isS]
def bvals (L : List Bool) : Array Value := (L.map Value.bool).toArray
def Mk (w : World) (g : Nat) (L : List Bool) : Prop := w.heap[g]? = some (.cells (bvals L) 58 (0, 0)) ∧ L.length = 9
theorem bvals_at (L : List Bool) (n : Nat) (hl : n < L.length) : (bvals L)[n]? = some (.bool (L.getD n false)) := by
  simp [bvals, List.getD_eq_getElem?_getD, List.getElem?_eq_getElem hl]
section
variable {w w' : World} {g : Nat} {L : List Bool}
theorem Mk.lt (h : Mk w g L) : g < w.heap.size := (Array.getElem?_eq_some_iff.1 h.1).1
theorem Mk.cell (h : Mk w g L) (n : Nat) (hn : n < 9) : w.cell? ⟨g, n, none⟩ = some (.bool (L.getD n false)) := by
  rw [cell_of_row w g n _ _ _ h.1]
  exact bvals_at L n (by rw [h.2]; exact hn)
theorem Mk.frozen (h : Mk w g L) (n : Nat) : w.frozen? ⟨g, n, none⟩ = false := frozen_of_row w g n _ _ h.1
theorem Mk.set (h : Mk w g L) (n : Nat) (v : Bool) : Mk (w.setCell ⟨g, n, none⟩ (.bool v)) g (L.set n v) := by
  refine ⟨?_, by rw [List.length_set]; exact h.2⟩
  rw [heap_setCell_same w g n _ 58 _ h.1]
  congr 2
  apply Array.ext_getElem?
  intro i
  simp [bvals, Array.getElem?_setIfInBounds, List.getElem?_set]
theorem Mk.below (h : Mk w g L) (hb : Below w.heap.size w w') : Mk w' g L := ⟨(hb.block g h.lt).trans h.1, h.2⟩
end
theorem marks_nil : marks [] = List.replicate 9 false := rfl
theorem marks_kid (l : List Int) (x : Int) (h : isD x = true) : (marks l).set (kidOf x).toNat true = marks (l ++ [x]) := by
  have hs : isS x = false := by
    unfold isD at h; unfold isS
    simp only [Bool.and_eq_true, decide_eq_true_eq] at h
    rw [decide_eq_false (show ¬ x < 76 by omega), Bool.and_false]
  have hb := kid_bd h
  have hk : kidsL (l ++ [x]) = kidsL l ++ [kidOf x] := by rw [kids_snoc, if_pos h]
  have ha : (l ++ [x]).any isS = l.any isS := by rw [any_snoc, hs, Bool.or_false]
  have hc : ∀ c : Int, (kidsL l ++ [kidOf x]).contains c = ((kidsL l).contains c || c == kidOf x) := fun c => by
    rw [Bool.eq_iff_iff, List.contains_iff_mem, Bool.or_eq_true, List.contains_iff_mem, List.mem_append, List.mem_singleton, beq_iff_eq]
  unfold marks
  rw [hk, ha]
  simp only [hc]
  generalize kidOf x = y at hb
  have hx : y = 0 ∨ y = 1 ∨ y = 2 ∨ y = 3 ∨ y = 4 ∨ y = 5 ∨ y = 6 ∨ y = 7 := by omega
  rcases hx with rfl | rfl | rfl | rfl | rfl | rfl | rfl | rfl <;> simp
theorem marks_one (l : List Int) (x : Int) (h : isS x = true) : (marks l).set 8 true = marks (l ++ [x]) := by
  have hd : isD x = false := by
    unfold isS at h; unfold isD
    simp only [Bool.and_eq_true, decide_eq_true_eq] at h
    rw [decide_eq_false (show ¬ 76 ≤ x by omega), Bool.false_and]
  have hk : kidsL (l ++ [x]) = kidsL l := by rw [kids_snoc, hd, if_neg (by decide), List.append_nil]
  unfold marks
  rw [hk, any_snoc, h, Bool.or_true]
  rfl
theorem marks_none (l : List Int) (x : Int) (h : isS x = false) (h2 : isD x = false) : marks (l ++ [x]) = marks l := by
  unfold marks
  rw [kids_snoc, h2, if_neg (by decide), List.append_nil, any_snoc, h, Bool.or_false]
def cntTo (L : List Bool) (i : Nat) : Nat := ((L.take i).filter id).length
theorem cntTo_succ (L : List Bool) (i : Nat) (h : i < L.length) : cntTo L (i + 1) = cntTo L i + b2n (L.getD i false) := by
  unfold cntTo
  rw [List.take_add_one, List.filter_append, List.length_append, List.getElem?_eq_getElem h, List.getD_eq_getElem?_getD, List.getElem?_eq_getElem h]
  simp only [Option.toList_some, Option.getD_some]
  cases L[i] <;> rfl
theorem cntTo_le (L : List Bool) (i : Nat) : cntTo L i ≤ i := by
  unfold cntTo
  refine Nat.le_trans (List.length_filter_le _ _) ?_
  rw [List.length_take]; omega
theorem cnt_nine : ∀ a b c d e f g h i : Bool, cntTo [a, b, c, d, e, f, g, h, i] 9 = b2n a + b2n b + b2n c + b2n d + b2n e + b2n f + b2n g + b2n h + b2n i := by decide +kernel
theorem cnt_marks (l : List Int) : cntTo (marks l) 9 + b2n (l.any isD) = indsF l := by
  unfold indsF cnt8 marks
  rw [cnt_nine]
theorem info58 : (Try.prog.info? 58).map (fun i => (i.zero, i.size)) = some (some (.agg (bvals (List.replicate 9 false))), 9) := by kernel_rfl

theorem rway_calls (k : Nat) (a0 r1 r2 r3 : Int) (r4 : Bool) (w : World) (h : beguinageref10_Way.f k a0 = some (r1, r2, r3, r4)) :
    Calls Try.prog 25 #[.int .i64 a0] w fun e w' => e = .returned (.tuple #[.int .i64 r1, .int .i64 r2, .int .i64 r3, .bool r4]) ∧ Below w.heap.size w w' :=
  (beguinageref10_Way.calls k a0 r1 r2 r3 r4 w h).mono fun e w' ⟨he, nd, hd⟩ => ⟨he, by first | (rw [hd]; exact pw_below_drewN (Below.refl _ _) nd) | (rw [← hd]; exact pw_below_drewN (Below.refl _ _) nd)⟩
theorem rway_none {x : Int} (h : x < 0 ∨ 588 ≤ x) : beguinageref10_Way.f 1 x = some (0, 0, 0, false) := by
  unfold beguinageref10_Way.f
  by_cases h1 : x < 0
  · rw [if_pos h1, beguinageref10_Way.j0, if_pos rfl]
  · rw [if_neg h1, decide_eq_true (by omega), beguinageref10_Way.j0, if_pos rfl]
theorem rway_dbl {x : Int} (h : isD x = true) : beguinageref10_Way.f 1 x = some (2, kidOf x, Int.tmod (wrap64 ((wrap64 (x - 12)) - 64)) 64, true) := by
  unfold isD at h
  simp only [Bool.and_eq_true, decide_eq_true_eq] at h
  unfold beguinageref10_Way.f
  rw [if_neg (by omega), decide_eq_false (by omega), beguinageref10_Way.j0, if_neg Bool.false_ne_true, if_neg (by omega), if_neg (by omega)]
  congr 2
  rw [w64 (x := x - 12) (by omega) (by omega), w64 (x := x - 12 - 64) (by omega) (by omega), show x - 12 - 64 = x - 76 by omega, Int.tdiv_eq_ediv_of_nonneg (by omega), w64 (by omega) (by omega)]
  rfl
theorem rway_sgl {x : Int} (h : isS x = true) : beguinageref10_Way.f 1 x = some (1, 0, wrap64 (x - 12), true) := by
  unfold isS at h
  simp only [Bool.and_eq_true, decide_eq_true_eq] at h
  unfold beguinageref10_Way.f
  rw [if_neg (by omega), decide_eq_false (by omega), beguinageref10_Way.j0, if_neg Bool.false_ne_true, if_neg (by omega), if_pos (by omega)]
theorem rway_str {x : Int} (h0 : 0 ≤ x) (h1 : x < 12) : beguinageref10_Way.f 1 x = some (0, 0, x, true) := by
  unfold beguinageref10_Way.f
  rw [if_neg (by omega), decide_eq_false (by omega), beguinageref10_Way.j0, if_neg Bool.false_ne_true, if_pos (by omega)]

set_option maxHeartbeats 8000000 in
set_option maxRecDepth 100000 in
theorem refInds_calls (A0 : Option Addr) (c0 : Nat) (l : List Int) (w : World) (hr0 : Kd.C (Kd.int .i64) w A0 l.length l) (hc0 : l.length ≤ c0) :
    Calls Try.prog 26 #[.slice A0 l.length c0] w fun e w' => e = .returned (.int .i64 (indsF l : Int)) ∧ Below w.heap.size w w' := by
  have hmax : l.length ≤ 9223372036854775807 := Kd.C_max hr0
  have HR0 := Aside0.mk hr0
  clear hr0
  have hz := (zero_of_info info58).1
  have hM0 : Mk (w.alloc (.cells (bvals (List.replicate 9 false)) 58)) w.heap.size (marks (l.take 0)) := ⟨heap_alloc_last _ _, rfl⟩
  have HM0 := Aside0.mk hM0
  clear hM0
  generalize bvals (List.replicate 9 false) = V at *
  have HC := Aside0.mk (cnt_marks l)
  go_enter Try.func26, Try.ntmps26
  go_wp2_with fail
  go_loopw [4, 5] (fun v i wr => ∃ k : Nat, k ≤ l.length ∧ v = .bool ((l.take k).any isD) ∧ i = .int .i64 k ∧ Aside0 (Mk wr w.heap.size (marks (l.take k))) ∧ Below w.heap.size w wr)
    (fun _ i _ => l.length - (intOf i).toNat)
  case atStart => exact ⟨0, Nat.zero_le _, rfl, rfl, HM0, (Below.refl _ _).alloc (Nat.le_refl _) _⟩
  case round =>
    clear HM0 hz
    obtain ⟨k, hk, rfl, rfl, HM, HB⟩ := hrel
    by_cases hlt : k < l.length
    · obtain ⟨ad, ead, hx0⟩ := Kd.at_int HR0.out (k : Int) (by omega) (by omega)
      cases ead
      replace hx0 := (HB.cell (World.block_lt_of_cell? w _ hx0)).trans hx0
      simp only [Int.toNat_natCast] at hx0
      obtain ⟨x, hx⟩ : ∃ x, l[k] = x := ⟨_, rfl⟩
      have hrd : rd l (k : Int) = x := by
        unfold rd
        rw [Int.toNat_natCast, List.getD_eq_getElem?_getD, List.getElem?_eq_getElem hlt, ← hx]; rfl
      rw [hrd] at hx0
      clear hrd
      have htk : l.take (k + 1) = l.take k ++ [x] := by rw [List.take_add_one, List.getElem?_eq_getElem hlt, ← hx]; rfl
      have HTk := Aside0.mk htk
      have e2 : Aside0 ((l.take (k + 1)).any isD = ((l.take k).any isD || isD x)) := ⟨by rw [htk, any_snoc]⟩
      clear htk hx
      by_cases hd : isD x = true
      · have HMk := Aside0.mk (marks_kid (l.take k) x hd)
        have hw : Aside0 (beguinageref10_Way.f 1 x = some (2, kidOf x, Int.tmod (wrap64 ((wrap64 (x - 12)) - 64)) 64, true)) := ⟨rway_dbl hd⟩
        have hkb := kid_bd hd
        rw [hd, Bool.or_true] at e2
        obtain ⟨q, hq⟩ := Int.eq_ofNat_of_zero_le hkb.1
        rw [hq] at HMk hw hkb
        rw [Int.toNat_natCast] at HMk
        clear hq hd
        generalize Int.tmod (wrap64 ((wrap64 (x - 12)) - 64)) 64 = z at *
        go_wp2_with fail
        refine (rway_calls 1 x 2 (q : Int) z true _ hw.out).mono ?_
        rintro e w1 ⟨rfl, hb⟩
        have HM1 := Aside0.mk (HM.out.below hb)
        have HB1 := below_step HB hb
        have hq8 : q < 9 := by omega
        have hc := HM1.out.cell q hq8
        have hf := HM1.out.frozen q
        have hset := HM1.out.set q true
        rw [HMk.out, ← HTk.out] at hset
        have HM2 := Aside0.mk hset
        have HB2 : Below w.heap.size w (w1.setCell ⟨w.heap.size, q, none⟩ (.bool true)) := below_set HB1 (Nat.le_refl _)
        generalize (marks (l.take k)).getD q false = ob at *
        clear hset HM HB hb HB1 HM1 HMk
        go_wp2_with fail
        go_roundw
        case rel => exact ⟨k + 1, by omega, by rw [e2.out], by go_num, HM2, HB2⟩
        case measure => simp only [intOf]; (try rw [w64 (by omega) (by omega)]); omega
      · replace hd := Bool.eq_false_iff.mpr hd
        rw [hd, Bool.or_false] at e2
        by_cases hs : isS x = true
        · have HMk := Aside0.mk (marks_one (l.take k) x hs)
          have hw : Aside0 (beguinageref10_Way.f 1 x = some (1, 0, wrap64 (x - 12), true)) := ⟨rway_sgl hs⟩
          clear hd hs
          generalize wrap64 (x - 12) = z at *
          go_wp2_with fail
          refine (rway_calls 1 x 1 0 z true _ hw.out).mono ?_
          rintro e w1 ⟨rfl, hb⟩
          have HM1 := Aside0.mk (HM.out.below hb)
          have HB1 := below_step HB hb
          have hc := HM1.out.cell 8 (by omega)
          have hf := HM1.out.frozen 8
          have hset := HM1.out.set 8 true
          rw [HMk.out, ← HTk.out] at hset
          have HM2 := Aside0.mk hset
          have HB2 : Below w.heap.size w (w1.setCell ⟨w.heap.size, 8, none⟩ (.bool true)) := below_set HB1 (Nat.le_refl _)
          generalize (marks (l.take k)).getD 8 false = ob at *
          clear hset HM HB hb HB1 HM1 HMk
          go_wp2_with fail
          go_roundw
          case rel => exact ⟨k + 1, by omega, by rw [e2.out], by go_num, HM2, HB2⟩
          case measure => simp only [intOf]; (try rw [w64 (by omega) (by omega)]); omega
        · replace hs := Bool.eq_false_iff.mpr hs
          have HMk := Aside0.mk (marks_none (l.take k) x hs hd)
          have hcase : (x < 0 ∨ 588 ≤ x) ∨ (0 ≤ x ∧ x < 12) := by
            unfold isD at hd
            unfold isS at hs
            simp only [Bool.and_eq_false_iff, decide_eq_false_iff_not] at hd hs
            omega
          have HM2 : Aside0 (∀ w1, Below wr.heap.size wr w1 → Mk w1 w.heap.size (marks (l.take (k + 1)))) := ⟨fun w1 hb => by rw [HTk.out, HMk.out]; exact HM.out.below hb⟩
          clear hs hd
          rcases hcase with hb0 | hb0
          · have hw : Aside0 (beguinageref10_Way.f 1 x = some (0, 0, 0, false)) := ⟨rway_none hb0⟩
            clear hb0
            go_wp2_with fail
            refine (rway_calls 1 x 0 0 0 false _ hw.out).mono ?_
            rintro e w1 ⟨rfl, hb⟩
            have HM3 := Aside0.mk (HM2.out w1 hb)
            have HB1 := below_step HB hb
            clear hb HB HM2 HM
            go_wp2_with fail
            go_roundw
            case rel => exact ⟨k + 1, by omega, by rw [e2.out], by go_num, HM3, HB1⟩
            case measure => simp only [intOf]; (try rw [w64 (by omega) (by omega)]); omega
          · have hw : Aside0 (beguinageref10_Way.f 1 x = some (0, 0, x, true)) := ⟨rway_str hb0.1 hb0.2⟩
            clear hb0
            go_wp2_with fail
            refine (rway_calls 1 x 0 0 x true _ hw.out).mono ?_
            rintro e w1 ⟨rfl, hb⟩
            have HM3 := Aside0.mk (HM2.out w1 hb)
            have HB1 := below_step HB hb
            clear hb HB HM2 HM
            go_wp2_with fail
            go_roundw
            case rel => exact ⟨k + 1, by omega, by rw [e2.out], by go_num, HM3, HB1⟩
            case measure => simp only [intOf]; (try rw [w64 (by omega) (by omega)]); omega
    · obtain rfl : k = l.length := by omega
      rw [List.take_length] at HM ⊢
      have hML : (marks l).length = 9 := rfl
      generalize marks l = M at *
      generalize l.any isD = bd at *
      go_wp2_with fail
      go_loopw [10, 11] (fun v i wr' => ∃ j : Nat, j ≤ 9 ∧ v = .int .i64 (cntTo M j : Int) ∧ i = .int .i64 j ∧ wr = wr')
        (fun _ i _ => 9 - (intOf i).toNat)
      case atStart => exact ⟨0, by omega, rfl, rfl, rfl⟩
      case round =>
        obtain ⟨j, hj, rfl, rfl, rfl⟩ := hrel
        have hle := cntTo_le M j
        by_cases hlt : j < 9
        · have hc := HM.out.cell j hlt
          have HS := Aside0.mk (cntTo_succ M j (by rw [hML]; exact hlt))
          generalize hbe : M.getD j false = mb at *
          clear hbe
          cases mb
          · go_wp2_with fail
            go_roundw
            case rel => exact ⟨j + 1, by omega, by rw [HS.out]; rfl, by go_num, by first | rfl | trivial⟩
            case measure => simp only [intOf]; (try rw [w64 (by omega) (by omega)]); omega
          · go_wp2_with fail
            go_roundw
            case rel => exact ⟨j + 1, by omega, by rw [HS.out]; show _ = Value.int .i64 ((cntTo M j + 1 : Nat) : Int); go_num, by go_num, by first | rfl | trivial⟩
            case measure => simp only [intOf]; (try rw [w64 (by omega) (by omega)]); omega
        · obtain rfl : j = 9 := by omega
          have HC2 := HC.out
          cases bd
          · have HC3 : Aside0 (indsF l = cntTo M 9) := ⟨by rw [← HC2]; rfl⟩
            clear HC2
            go_wp2_with fail
            go_ret
            exact ⟨by rw [HC3.out]; rfl, HB⟩
          · have HC3 : Aside0 (indsF l = cntTo M 9 + 1) := ⟨by rw [← HC2]; rfl⟩
            clear HC2
            go_wp2_with fail
            go_ret
            exact ⟨by rw [HC3.out]; show Ending.returned (.int .i64 _) = Ending.returned (.int .i64 _); congr 2, HB⟩
def beguinageref10_Inds.f (l : List Int) : Option Int := some (indsF l : Int)
theorem beguinageref10_Inds.calls (A0 : Option Addr) (c0 : Nat) (l : List Int) (r : Int) (w : World) (hr0 : Kd.C (Kd.int .i64) w A0 l.length l) (hc0 : l.length ≤ c0) (h : beguinageref10_Inds.f l = some r) :
    Calls Try.prog 26 #[.slice A0 l.length c0] w fun e w' => e = .returned (.int .i64 r) ∧ Below w.heap.size w w' := by
  obtain rfl := Option.some.inj h
  exact refInds_calls A0 c0 l w hr0 hc0
end Go.Proofs.Ytbdghlneiblkcaa.PSpan
