/- pool.taken: the segments of all houses, as a set in new memory. Condition: there are fewer of them than the model's longest length. -/
import Derived.Test.YtkdjjkcoonlddaaPPoolx0
import Derived.Test.YtkdjjkcoonlddaaPoolSets
import Derived.Test.YtkdjjkcoonlddaaAid
namespace Go.Proofs.Ytkdjjkcoonlddaa.PPool
open Go.RowKit Go.Maps Go.Proofs.YtkdjjkcoonlddaaW.PrintWords Go.Proofs.YtkdjjkcoonlddaaW.PrintLast Go.Proofs.YtkdjjkcoonlddaaW.PrintMore
open Go.Proofs.Ytkdjjkcoonlddaa.Sets Go.Proofs.Ytkdjjkcoonlddaa.Aid
attribute [local go_sem] max2_int min2_int max_two min_two max_three min_three max_four min_four
set_option linter.unusedVariables false
set_option linter.unusedSimpArgs false

/-- All segments of all houses. -/
def segsOf (l : List S36) : List Int := l.flatMap S36.f3

theorem segs_take (l : List S36) (k : Nat) (hk : k < l.length) : segsOf (l.take (k + 1)) = segsOf (l.take k) ++ (rd_T36 l (k : Int)).f3 := by
  unfold segsOf rd_T36
  rw [List.take_add_one, List.flatMap_append, List.getElem?_eq_getElem hk, Int.toNat_natCast, List.getD_eq_getElem?_getD, List.getElem?_eq_getElem hk]
  simp
theorem segs_mem (l : List S36) (k : Nat) (hk : k < l.length) (x : Int) (hx : x ∈ (rd_T36 l (k : Int)).f3) : x ∈ segsOf l := by
  unfold rd_T36 at hx
  rw [Int.toNat_natCast, List.getD_eq_getElem?_getD, List.getElem?_eq_getElem hk] at hx
  exact List.mem_flatMap.2 ⟨l[k], List.getElem_mem hk, hx⟩
theorem segs_le (l : List S36) (k : Nat) : (segsOf (l.take k)).length ≤ (segsOf l).length := by
  unfold segsOf
  conv => rhs; rw [← List.take_append_drop k l]
  rw [List.flatMap_append, List.length_append]; omega

set_option maxHeartbeats 8000000 in
set_option maxRecDepth 100000 in
theorem taken_calls (A1 : Option Addr) (c1 : Nat) (l1 : List S36) (w : World) (hr1 : Kd.C k36 w A1 l1.length l1) (hc1 : l1.length ≤ c1) (hn : (segsOf l1).length < maxLen) (hwf : ∀ x ∈ segsOf l1, (Lit.int .i64 x).wf = true) :
    Calls Try.prog 51 #[.slice A1 l1.length c1] w fun e w' => e = .returned (.map (some w.heap.size)) ∧ w'.ownsMap Try.prog 3 (plainElem Try.prog 4) w.heap.size (segsOf l1).length (setD (segsOf l1)) ∧ Below w.heap.size w w' := by
  have HR1 := Aside0.mk hr1
  have hlen : l1.length ≤ 9223372036854775807 := Kd.C_max hr1
  have hmm := @run_makeMap Try.prog
  have hu36 := Try.underlying36
  go_enter Try.func51, Try.ntmps51
  go_wp2
  go_loopw [11] (fun i wr => ∃ k : Nat, k ≤ l1.length ∧ i = .int .i64 k ∧ wr.ownsMap Try.prog 3 (plainElem Try.prog 4) w.heap.size (segsOf (l1.take k)).length (setD (segsOf (l1.take k))) ∧ Below w.heap.size w wr)
    (fun i _ => l1.length - (intOf i).toNat)
  case atStart => exact ⟨0, Nat.zero_le _, rfl, World.ownsMap_made _ _ _ _, (Below.refl _ _).alloc (Nat.le_refl _) _⟩
  case round =>
    obtain ⟨k, hk, rfl, hown, HB⟩ := hrel
    by_cases hlt : k < l1.length
    · have c1 : decide ((k : Int) < (l1.length : Int)) = true := decide_eq_true (by omega)
      obtain ⟨ad113, A113_9, c113_9, e113, hx113_0, hx113_1, hx113_2, hx113_3, hx113_4, hx113_5, hx113_6, hx113_7, hx113_8, hx113_9, hl113_9, hi113_9⟩ := at_T36 HR1.out (k : Int) (by omega) (by omega)
      cases e113
      replace hx113_0 := (HB.cell (World.block_lt_of_cell? w _ hx113_0)).trans hx113_0
      replace hx113_1 := (HB.cell (World.block_lt_of_cell? w _ hx113_1)).trans hx113_1
      replace hx113_2 := (HB.cell (World.block_lt_of_cell? w _ hx113_2)).trans hx113_2
      replace hx113_3 := (HB.cell (World.block_lt_of_cell? w _ hx113_3)).trans hx113_3
      replace hx113_4 := (HB.cell (World.block_lt_of_cell? w _ hx113_4)).trans hx113_4
      replace hx113_5 := (HB.cell (World.block_lt_of_cell? w _ hx113_5)).trans hx113_5
      replace hx113_6 := (HB.cell (World.block_lt_of_cell? w _ hx113_6)).trans hx113_6
      replace hx113_7 := (HB.cell (World.block_lt_of_cell? w _ hx113_7)).trans hx113_7
      replace hx113_8 := (HB.cell (World.block_lt_of_cell? w _ hx113_8)).trans hx113_8
      replace hx113_9 := (HB.cell (World.block_lt_of_cell? w _ hx113_9)).trans hx113_9
      simp only [Int.toNat_natCast] at hx113_0 hx113_1 hx113_2 hx113_3 hx113_4 hx113_5 hx113_6 hx113_7 hx113_8 hx113_9
      go_wp2
      go_loopw [18] (fun j wq => ∃ q : Nat, q ≤ (rd_T36 l1 k).f3.length ∧ j = .int .i64 q ∧ wq.ownsMap Try.prog 3 (plainElem Try.prog 4) w.heap.size ((segsOf (l1.take k)).length + q) (setD (segsOf (l1.take k) ++ (rd_T36 l1 k).f3.take q)) ∧ Below w.heap.size w wq)
        (fun j _ => (rd_T36 l1 k).f3.length - (intOf j).toNat)
      case atStart => exact ⟨0, Nat.zero_le _, rfl, (by rw [List.take_zero, List.append_nil]; exact hown.alloc _), below_alloc HB _⟩
      case round =>
        obtain ⟨q, hq, rfl, hown2, HB2⟩ := hrel
        by_cases hq2 : q < (rd_T36 l1 k).f3.length
        · have c2 : decide ((q : Int) < ((rd_T36 l1 k).f3.length : Int)) = true := decide_eq_true (by omega)
          obtain ⟨ad115, e115, hx115⟩ := Kd.at_int hi113_9 (q : Int) (by omega) (by omega)
          cases e115
          replace hx115 := (HB2.cell (World.block_lt_of_cell? w _ hx115)).trans hx115
          simp only [Int.toNat_natCast] at hx115
          have hmax := Kd.C_max hi113_9
          have hs := segs_take l1 k hlt
          have hle := segs_le l1 (k + 1)
          rw [hs, List.length_append] at hle
          have hrd : rd (rd_T36 l1 k).f3 (q : Int) = (rd_T36 l1 k).f3[q] := by
            unfold rd
            rw [Int.toNat_natCast, List.getD_eq_getElem?_getD, List.getElem?_eq_getElem hq2]; rfl
          rw [hrd] at hx115
          clear hrd
          have hwfq : (Lit.int .i64 (rd_T36 l1 k).f3[q]).wf = true := hwf _ (segs_mem l1 k hlt _ (List.getElem_mem hq2))
          go_wp2_with (first
            | (at_mapUpdate; refine wpList_mapUpdate_own _ rfl _ _ _ 75 rfl 3 4 key3 Try.underlying75 _ w.heap.size ((segsOf (l1.take k)).length + q) _ rfl hown2 (by omega) _ _ (.int .i64 (rd_T36 l1 k).f3[q]) rfl rfl (keyOf_int_mk Try.underlying3 hwfq) _ [] (plainElem_bool Try.underlying4 true) ?_; intro w1 hown3 hgrow3)
            | go_in)
          go_roundw
          case rel =>
            refine ⟨q + 1, by omega, by go_num, ?_, HB2.grown hgrow3 HB2.size (fun j hj => by cases hj; exact Nat.le_refl _)⟩
            rw [← setD_snoc, List.append_assoc] at hown3
            rw [List.take_add_one, List.getElem?_eq_getElem hq2]
            exact hown3
          case measure => simp only [intOf]; (try rw [w64 (by omega) (by omega)]); omega
        · have c2 : decide ((q : Int) < ((rd_T36 l1 k).f3.length : Int)) = false := decide_eq_false (by omega)
          obtain rfl : q = (rd_T36 l1 k).f3.length := by omega
          rw [List.take_length, ← segs_take l1 k hlt] at hown2
          have hs : (segsOf (l1.take (k + 1))).length = (segsOf (l1.take k)).length + (rd_T36 l1 k).f3.length := by rw [segs_take l1 k hlt, List.length_append]
          rw [← hs] at hown2
          go_wp2
          go_roundw
          case rel => exact ⟨k + 1, by omega, by go_num, hown2, HB2⟩
          case measure => simp only [intOf]; (try rw [w64 (by omega) (by omega)]); omega
    · have c1 : decide ((k : Int) < (l1.length : Int)) = false := decide_eq_false (by omega)
      obtain rfl : k = l1.length := by omega
      rw [List.take_length] at hown
      go_wp2
      go_ret
      exact ⟨rfl, hown, HB⟩
end Go.Proofs.Ytkdjjkcoonlddaa.PPool
