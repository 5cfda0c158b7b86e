/- The contract of span.Inds: how many blocks of pointers the blocks of a list need: one for each kid, one if any is single, one if any is double. Conditions: none. -/
import Derived.Test.YtbdghlneiblkcaaPSpanx0
import Derived.Test.YtbdghlneiblkcaaPSpanx1
import Derived.Test.YtbdghlneiblkcaaSets
import Derived.Test.YtbdghlneiblkcaaAid
namespace Go.Proofs.Ytbdghlneiblkcaa.PSpan
open Go.RowKit Go.Maps Go.Proofs.YtbdghlneiblkcaaW.PrintWords Go.Proofs.YtbdghlneiblkcaaW.PrintLast Go.Proofs.YtbdghlneiblkcaaW.PrintMore
open Go.Proofs.Ytbdghlneiblkcaa.Sets Go.Proofs.Ytbdghlneiblkcaa.Aid
attribute [local go_sem] max2_int min2_int max_two min_two max_three min_three max_four min_four
set_option linter.unusedVariables false
set_option linter.unusedSimpArgs false

def b2n (b : Bool) : Nat := if b then 1 else 0
/-- How many of the numbers 0 .. 7. -/
def cnt8 (p : Int → Bool) : Nat := b2n (p 0) + b2n (p 1) + b2n (p 2) + b2n (p 3) + b2n (p 4) + b2n (p 5) + b2n (p 6) + b2n (p 7)
theorem b2n_le (b : Bool) : b2n b ≤ 1 := by cases b <;> decide
theorem cnt8_le (p : Int → Bool) : cnt8 p ≤ 8 := by
  unfold cnt8
  have := fun x => b2n_le (p x)
  have h0 := this 0; have h1 := this 1; have h2 := this 2; have h3 := this 3; have h4 := this 4; have h5 := this 5; have h6 := this 6; have h7 := this 7
  omega
def isD (i : Int) : Bool := decide (76 ≤ i) && decide (i < 588)
def isS (i : Int) : Bool := decide (12 ≤ i) && decide (i < 76)
def kidOf (i : Int) : Int := (i - 76) / 64
/-- The kids of the blocks of a list, repeats and all. -/
def kidsL (l : List Int) : List Int := (l.filter isD).map kidOf
def indsF (l : List Int) : Nat := cnt8 (fun c => (kidsL l).contains c) + b2n (l.any isS) + b2n (l.any isD)
theorem kids_snoc (l : List Int) (x : Int) : kidsL (l ++ [x]) = kidsL l ++ if isD x = true then [kidOf x] else [] := by
  unfold kidsL
  rw [List.filter_append, List.map_append]
  congr 1
  cases h : isD x <;> simp [h]
theorem any_snoc (f : Int → Bool) (l : List Int) (x : Int) : (l ++ [x]).any f = (l.any f || f x) := by simp
theorem kid_bd {x : Int} (h : isD x = true) : 0 ≤ kidOf x ∧ kidOf x < 8 := by
  unfold isD at h
  simp only [Bool.and_eq_true, decide_eq_true_eq] at h
  unfold kidOf; omega
theorem kids_bd (l : List Int) : ∀ x ∈ kidsL l, 0 ≤ x ∧ x < 8 := by
  intro x hx
  obtain ⟨y, hy, rfl⟩ := List.mem_map.1 hx
  exact kid_bd (List.mem_filter.1 hy).2
theorem kids_le (l : List Int) : (kidsL l).length ≤ l.length := by
  unfold kidsL
  rw [List.length_map]
  exact List.length_filter_le _ _

/-- How many different ones a set has whose numbers lie in 0 .. 7. -/
theorem set_size (xs : List Int) (h : ∀ x ∈ xs, 0 ≤ x ∧ x < 8) : Maps.size (setD xs) = cnt8 (fun c => xs.contains c) ∧ Maps.Tidy (setD xs) ∧ ∀ c : Int, Maps.has (setD xs) (.int .i64 c) = xs.contains c := by
  have hk : ∀ ys : List Int, ∀ x ∈ ys.map (Lit.int .i64), WideAt.IsKeyLit x := fun ys x hx => by
    obtain ⟨z, _, rfl⟩ := List.mem_map.1 hx; exact isKey z
  have hhas : ∀ (ys : List Int) (c : Int), Maps.has (setD ys) (.int .i64 c) = ys.contains c := fun ys c => by
    unfold setD
    rw [has_setOf _ _ _ (hk ys), any_contains]
  have htidy : ∀ ys : List Int, Maps.Tidy (setD ys) := fun ys => tidy_setOf _ _ (hk ys)
  refine ⟨?_, htidy xs, hhas xs⟩
  have key : ∀ (n : Nat), n ≤ xs.length → Maps.size (setD (xs.take n)) = cnt8 (fun c => (xs.take n).contains c) := by
    intro n
    induction n with
    | zero => intro _; rfl
    | succ n ih =>
      intro hn
      have hlt : n < xs.length := by omega
      have e : xs.take (n + 1) = xs.take n ++ [xs[n]] := by rw [List.take_add_one, List.getElem?_eq_getElem hlt]; rfl
      have ih' := ih (by omega)
      have hb := h xs[n] (List.getElem_mem hlt)
      rw [e, setD_snoc, size_put (htidy _), hhas, ih']
      generalize xs[n] = x at hb
      generalize xs.take n = ys
      have hc : ∀ c : Int, (ys ++ [x]).contains c = (ys.contains c || c == x) := fun c => by
        rw [Bool.eq_iff_iff, List.contains_iff_mem, Bool.or_eq_true, List.contains_iff_mem, List.mem_append, List.mem_singleton, beq_iff_eq]
      unfold cnt8
      simp only [hc]
      have hx : x = 0 ∨ x = 1 ∨ x = 2 ∨ x = 3 ∨ x = 4 ∨ x = 5 ∨ x = 6 ∨ x = 7 := by omega
      rcases hx with rfl | rfl | rfl | rfl | rfl | rfl | rfl | rfl <;> (clear hc hb; generalize ys.contains 0 = q0; generalize ys.contains 1 = q1; generalize ys.contains 2 = q2; generalize ys.contains 3 = q3; generalize ys.contains 4 = q4; generalize ys.contains 5 = q5; generalize ys.contains 6 = q6; generalize ys.contains 7 = q7; revert q0 q1 q2 q3 q4 q5 q6 q7; decide +kernel)
  have := key xs.length (Nat.le_refl _)
  rwa [List.take_length] at this

theorem owns_size {w : World} {b n : Nat} {D : DataW Nat} (h : w.ownsMap Try.prog 3 (plainElem Try.prog 4) b n D) : ∃ es clock, w.heap[b]? = some (.map es clock) ∧ es.size = Maps.size D := by
  obtain ⟨es, clock, hb, _, _, rfl⟩ := h
  refine ⟨es, clock, hb, ?_⟩
  show es.size = ((es.toList.map _).foldr DataW.insert []).length
  rw [length_sorted]; simp

theorem way_none {x : Int} (h : x < 0 ∨ 588 ≤ x) : span_Way.f 1 x = some (0, 0, 0, false) := by
  unfold span_Way.f
  by_cases h1 : x < 0
  · rw [if_pos h1, span_Way.j0, if_pos rfl]
  · rw [if_neg h1, decide_eq_true (by omega), span_Way.j0, if_pos rfl]
theorem way_dbl {x : Int} (h : isD x = true) : span_Way.f 1 x = some (2, kidOf x, Int.tmod (wrap64 (x - 12)) 64, true) := by
  unfold isD at h
  simp only [Bool.and_eq_true, decide_eq_true_eq] at h
  unfold span_Way.f
  rw [if_neg (by omega), decide_eq_false (by omega), span_Way.j0, if_neg Bool.false_ne_true, if_pos (by omega)]
  congr 2
  rw [w64 (x := x - 12) (by omega) (by omega), w64 (x := x - 12 - 64) (by omega) (by omega), show x - 12 - 64 = x - 76 by omega, Int.tdiv_eq_ediv_of_nonneg (by omega), w64 (by omega) (by omega)]
  rfl
theorem way_sgl {x : Int} (h : isS x = true) : span_Way.f 1 x = some (1, 0, Int.tmod (wrap64 (x - 12)) 64, true) := by
  unfold isS at h
  simp only [Bool.and_eq_true, decide_eq_true_eq] at h
  unfold span_Way.f
  rw [if_neg (by omega), decide_eq_false (by omega), span_Way.j0, if_neg Bool.false_ne_true, if_neg (by omega), if_pos (by omega)]
  rfl
theorem way_str {x : Int} (h0 : 0 ≤ x) (h1 : x < 12) : span_Way.f 1 x = some (0, 0, x, true) := by
  unfold span_Way.f
  rw [if_neg (by omega), decide_eq_false (by omega), span_Way.j0, if_neg Bool.false_ne_true, if_neg (by omega), if_neg (by omega)]

set_option maxHeartbeats 8000000 in
set_option maxRecDepth 100000 in
theorem inds_calls (A0 : Option Addr) (c0 : Nat) (l : List Int) (w : World) (hr0 : Kd.C (Kd.int .i64) w A0 l.length l) (hc0 : l.length ≤ c0) :
    Calls Try.prog 19 #[.slice A0 l.length c0] w fun e w' => e = .returned (.int .i64 (indsF l : Int)) ∧ Below w.heap.size w w' := by
  have hmax : l.length ≤ 9223372036854775807 := Kd.C_max hr0
  have hmm := @run_makeMap Try.prog
  go_enter Try.func19, Try.ntmps19
  go_wp2
  go_loopw [3, 4, 16] (fun v3 v4 i wr => ∃ k : Nat, k ≤ l.length ∧ v3 = .bool ((l.take k).any isS) ∧ v4 = .bool ((l.take k).any isD) ∧ i = .int .i64 k ∧ wr.ownsMap Try.prog 3 (plainElem Try.prog 4) w.heap.size k (setD (kidsL (l.take k))) ∧ Below w.heap.size w wr)
    (fun _ _ i _ => l.length - (intOf i).toNat)
  case atStart => exact ⟨0, Nat.zero_le _, rfl, rfl, rfl, World.ownsMap_made _ _ _ _, (Below.refl _ _).alloc (Nat.le_refl _) _⟩
  case round =>
    obtain ⟨k, hk, rfl, rfl, rfl, hown, HB⟩ := hrel
    by_cases hlt : k < l.length
    · have c1 : decide ((k : Int) < (l.length : Int)) = true := decide_eq_true (by omega)
      obtain ⟨ad, ead, hx0⟩ := Kd.at_int hr0 (k : Int) (by omega) (by omega)
      cases ead
      replace hx0 := (HB.cell (World.block_lt_of_cell? w _ hx0)).trans hx0
      simp only [Int.toNat_natCast] at hx0
      obtain ⟨x, hx⟩ : ∃ x, l[k] = x := ⟨_, rfl⟩
      have hrd : rd l (k : Int) = x := by
        unfold rd
        rw [Int.toNat_natCast, List.getD_eq_getElem?_getD, List.getElem?_eq_getElem hlt, ← hx]; rfl
      rw [hrd] at hx0
      clear hrd
      have htk : l.take (k + 1) = l.take k ++ [x] := by rw [List.take_add_one, List.getElem?_eq_getElem hlt, ← hx]; rfl
      have e1 : Aside0 ((l.take (k + 1)).any isS = ((l.take k).any isS || isS x)) := ⟨by rw [htk, any_snoc]⟩
      have e2 : Aside0 ((l.take (k + 1)).any isD = ((l.take k).any isD || isD x)) := ⟨by rw [htk, any_snoc]⟩
      have e3 : Aside0 (kidsL (l.take (k + 1)) = kidsL (l.take k) ++ if isD x = true then [kidOf x] else []) := ⟨by rw [htk, kids_snoc]⟩
      clear htk hx
      generalize (l.take k).any isS = bs at *
      generalize (l.take k).any isD = bd at *
      by_cases hd : isD x = true
      · have hs : isS x = false := by
          unfold isD at hd; unfold isS
          simp only [Bool.and_eq_true, decide_eq_true_eq] at hd
          rw [decide_eq_false (show ¬ x < 76 by omega), Bool.and_false]
        have hw : Aside0 (span_Way.f 1 x = some (2, kidOf x, Int.tmod (wrap64 (x - 12)) 64, true)) := ⟨way_dbl hd⟩
        have hkb := kid_bd hd
        obtain ⟨q, hq⟩ := Int.eq_ofNat_of_zero_le hkb.1
        have hwf : (Lit.int .i64 (kidOf x)).wf = true := by
          have h := wrap64_wf (kidOf x); rwa [w64 (by omega) (by omega)] at h
        clear hq
        rw [hd, if_pos rfl] at e3
        rw [hd, Bool.or_true] at e2
        rw [hs, Bool.or_false] at e1
        generalize kidOf x = y at *
        generalize Int.tmod (wrap64 (x - 12)) 64 = z at *
        go_wp2_with (first
          | (go_at_call 20; go_loud (refine (span_Way.calls 1 x 2 y z true _ hw.out).mono ?_; rintro e w1 ⟨rfl, hb⟩; replace hown := hown.kept (grown_of_below hb none) (by simp); replace HB := below_step HB hb; clear hb))
          | (at_mapUpdate; refine wpList_mapUpdate_own _ rfl _ _ _ 54 rfl 3 4 key3 Try.underlying54 _ w.heap.size k _ rfl hown (by unfold maxLen; omega) _ _ (.int .i64 y) rfl rfl (keyOf_int_mk Try.underlying3 hwf) _ [] (plainElem_bool Try.underlying4 true) ?_; intro w1 hown3 hgrow3)
          | go_in)
        go_roundw
        case rel => exact ⟨k + 1, by omega, by rw [e1.out], by rw [e2.out], by go_num, by rw [e3.out, setD_snoc]; exact hown3, HB.grown hgrow3 HB.size (fun j hj => by cases hj; exact Nat.le_refl _)⟩
        case measure => simp only [intOf]; (try rw [w64 (by omega) (by omega)]); omega
      · replace hd := Bool.eq_false_iff.mpr hd
        rw [hd, if_neg Bool.false_ne_true, List.append_nil] at e3
        rw [hd, Bool.or_false] at e2
        by_cases hs : isS x = true
        · have hw : Aside0 (span_Way.f 1 x = some (1, 0, Int.tmod (wrap64 (x - 12)) 64, true)) := ⟨way_sgl hs⟩
          rw [hs, Bool.or_true] at e1
          generalize Int.tmod (wrap64 (x - 12)) 64 = z at *
          go_wp2_with (first
            | (go_at_call 20; go_loud (refine (span_Way.calls 1 x 1 0 z true _ hw.out).mono ?_; rintro e w1 ⟨rfl, hb⟩; replace hown := hown.kept (grown_of_below hb none) (by simp); replace HB := below_step HB hb; clear hb))
            | go_in)
          go_roundw
          case rel => exact ⟨k + 1, by omega, by rw [e1.out], by rw [e2.out], by go_num, by rw [e3.out]; exact hown.mono (by omega), HB⟩
          case measure => simp only [intOf]; (try rw [w64 (by omega) (by omega)]); omega
        · replace hs := Bool.eq_false_iff.mpr hs
          rw [hs, Bool.or_false] at e1
          by_cases hb : x < 0 ∨ 588 ≤ x
          · have hw : Aside0 (span_Way.f 1 x = some (0, 0, 0, false)) := ⟨way_none hb⟩
            go_wp2_with (first
              | (go_at_call 20; go_loud (refine (span_Way.calls 1 x 0 0 0 false _ hw.out).mono ?_; rintro e w1 ⟨rfl, hb⟩; replace hown := hown.kept (grown_of_below hb none) (by simp); replace HB := below_step HB hb; clear hb))
              | go_in)
            go_roundw
            case rel => exact ⟨k + 1, by omega, by rw [e1.out], by rw [e2.out], by go_num, by rw [e3.out]; exact hown.mono (by omega), HB⟩
            case measure => simp only [intOf]; (try rw [w64 (by omega) (by omega)]); omega
          · have hx12 : 0 ≤ x ∧ x < 12 := by
              unfold isD at hd
              unfold isS at hs
              simp only [Bool.and_eq_false_iff, decide_eq_false_iff_not] at hd hs
              omega
            have hw : Aside0 (span_Way.f 1 x = some (0, 0, x, true)) := ⟨way_str hx12.1 hx12.2⟩
            go_wp2_with (first
              | (go_at_call 20; go_loud (refine (span_Way.calls 1 x 0 0 x true _ hw.out).mono ?_; rintro e w1 ⟨rfl, hb⟩; replace hown := hown.kept (grown_of_below hb none) (by simp); replace HB := below_step HB hb; clear hb))
              | go_in)
            go_roundw
            case rel => exact ⟨k + 1, by omega, by rw [e1.out], by rw [e2.out], by go_num, by rw [e3.out]; exact hown.mono (by omega), HB⟩
            case measure => simp only [intOf]; (try rw [w64 (by omega) (by omega)]); omega
    · have c1 : decide ((k : Int) < (l.length : Int)) = false := decide_eq_false (by omega)
      obtain rfl : k = l.length := by omega
      rw [List.take_length] at hown ⊢
      obtain ⟨hsz, _, _⟩ := set_size (kidsL l) (kids_bd l)
      obtain ⟨es, clock, hbk, hes⟩ := owns_size hown
      rw [hsz] at hes
      have h8 := cnt8_le (fun c => (kidsL l).contains c)
      have hF : Aside0 (indsF l = es.size + b2n (l.any isS) + b2n (l.any isD)) := ⟨by unfold indsF; rw [hes]⟩
      clear hsz
      have h9 : es.size ≤ 8 := by omega
      clear hes h8
      have hrun : ∀ ty, (Builtin.len_ #[54] ty #[.map (some w.heap.size)]).run Try.prog wr = .ok (goInt es.size) wr := fun ty => run_len_map _ _ _ _ _ _ (by kernel_rfl) hbk
      generalize l.any isS = bs at *
      generalize l.any isD = bd at *
      cases bs <;> cases bd <;> (
        go_wp2
        go_ret
        refine ⟨?_, HB⟩
        rw [hF.out]
        show Ending.returned (.int .i64 _) = Ending.returned (.int .i64 _)
        congr 2)

def span_Inds.f (l : List Int) : Option Int := some (indsF l : Int)
theorem span_Inds.calls (A0 : Option Addr) (c0 : Nat) (l : List Int) (r : Int) (w : World) (hr0 : Kd.C (Kd.int .i64) w A0 l.length l) (hc0 : l.length ≤ c0) (h : span_Inds.f l = some r) :
    Calls Try.prog 19 #[.slice A0 l.length c0] w fun e w' => e = .returned (.int .i64 r) ∧ Below w.heap.size w w' := by
  obtain rfl := Option.some.inj h
  exact inds_calls A0 c0 l w hr0 hc0
end Go.Proofs.Ytbdghlneiblkcaa.PSpan
