/- SpanCounts, the plain law. -/
import Derived.Test.YtbdghlneiblkcaaPSpanx6
import Derived.Test.YtbdghlneiblkcaaSpanPlain
namespace Go.Proofs.Ytbdghlneiblkcaa.Pure
open Go.RowKit Go.Proofs.Ytbdghlneiblkcaa.PSpan Go.Proofs.YtbdghlneiblkcaaW.PrintWords Go.Proofs.YtbdghlneiblkcaaW.PrintLast Go.Proofs.YtbdghlneiblkcaaW.PrintMore
open Go.Proofs.Ytbdghlneiblkcaa.Aid
set_option linter.unusedVariables false
set_option linter.unusedSimpArgs false
namespace Sc

/-- Each of the numbers below j, twice. -/
def twice (j : Nat) : List Int := (List.range j).flatMap fun i : Nat => [(i : Int), (i : Int)]
theorem twice_succ (j : Nat) : twice (j + 1) = twice j ++ [(j : Int), (j : Int)] := by
  unfold twice
  rw [List.range_succ, List.flatMap_append]; simp
theorem twice_length (j : Nat) : (twice j).length = 2 * j := by
  induction j with
  | zero => rfl
  | succ j ih => rw [twice_succ, List.length_append, ih]; simp only [List.length_cons, List.length_nil]; omega
/-- What so many blocks need. -/
def want (k : Nat) : Nat := if k > 76 then 1 + 1 + (k - 13) / 64 else if k > 12 then 1 else 0
theorem mem_twice (k : Nat) (x : Int) : x ∈ twice k ↔ ∃ i : Nat, i < k ∧ x = (i : Int) := by
  unfold twice
  rw [List.mem_flatMap]
  constructor
  · rintro ⟨i, hi, h⟩
    simp only [List.mem_cons, List.not_mem_nil, or_false, or_self] at h
    exact ⟨i, List.mem_range.1 hi, h⟩
  · rintro ⟨i, hi, h⟩
    exact ⟨i, List.mem_range.2 hi, by simp [h]⟩
theorem any_s (k : Nat) (hk : k ≤ 588) : (twice k).any isS = decide (12 < k) := by
  rw [Bool.eq_iff_iff, List.any_eq_true, decide_eq_true_iff]
  constructor
  · rintro ⟨x, hx, h⟩
    obtain ⟨i, hi, rfl⟩ := (mem_twice k x).1 hx
    unfold isS at h
    simp only [Bool.and_eq_true, decide_eq_true_eq] at h
    omega
  · intro h
    exact ⟨((12 : Nat) : Int), (mem_twice k _).2 ⟨12, h, rfl⟩, by decide⟩
theorem any_d (k : Nat) (hk : k ≤ 588) : (twice k).any isD = decide (76 < k) := by
  rw [Bool.eq_iff_iff, List.any_eq_true, decide_eq_true_iff]
  constructor
  · rintro ⟨x, hx, h⟩
    obtain ⟨i, hi, rfl⟩ := (mem_twice k x).1 hx
    unfold isD at h
    simp only [Bool.and_eq_true, decide_eq_true_eq] at h
    omega
  · intro h
    exact ⟨((76 : Nat) : Int), (mem_twice k _).2 ⟨76, h, rfl⟩, by decide⟩
theorem kid_at (k : Nat) (hk : k ≤ 588) (c : Nat) (hc : c < 8) : (kidsL (twice k)).contains (c : Int) = decide (76 + 64 * c < k) := by
  rw [Bool.eq_iff_iff, List.contains_iff_mem, decide_eq_true_iff]
  unfold kidsL
  rw [List.mem_map]
  constructor
  · rintro ⟨x, hx, h⟩
    obtain ⟨hx1, hx2⟩ := List.mem_filter.1 hx
    obtain ⟨i, hi, rfl⟩ := (mem_twice k x).1 hx1
    unfold isD at hx2
    simp only [Bool.and_eq_true, decide_eq_true_eq] at hx2
    unfold kidOf at h
    omega
  · intro h
    refine ⟨((76 + 64 * c : Nat) : Int), List.mem_filter.2 ⟨(mem_twice k _).2 ⟨_, h, rfl⟩, ?_⟩, ?_⟩
    · unfold isD
      simp only [Bool.and_eq_true, decide_eq_true_eq]
      omega
    · unfold kidOf; omega
theorem b2n_dec (p : Prop) [Decidable p] : b2n (decide p) = if p then 1 else 0 := by
  by_cases h : p
  · rw [decide_eq_true h, if_pos h]; rfl
  · rw [decide_eq_false h, if_neg h]; rfl
theorem inds_twice_all (k : Nat) (hk : k ≤ 588) : indsF (twice k) = want k := by
  unfold indsF cnt8
  rw [any_s k hk, any_d k hk]
  have h0 : (kidsL (twice k)).contains (0 : Int) = decide (76 < k) := kid_at k hk 0 (by omega)
  have h1 : (kidsL (twice k)).contains (1 : Int) = decide (140 < k) := kid_at k hk 1 (by omega)
  have h2 : (kidsL (twice k)).contains (2 : Int) = decide (204 < k) := kid_at k hk 2 (by omega)
  have h3 : (kidsL (twice k)).contains (3 : Int) = decide (268 < k) := kid_at k hk 3 (by omega)
  have h4 : (kidsL (twice k)).contains (4 : Int) = decide (332 < k) := kid_at k hk 4 (by omega)
  have h5 : (kidsL (twice k)).contains (5 : Int) = decide (396 < k) := kid_at k hk 5 (by omega)
  have h6 : (kidsL (twice k)).contains (6 : Int) = decide (460 < k) := kid_at k hk 6 (by omega)
  have h7 : (kidsL (twice k)).contains (7 : Int) = decide (524 < k) := kid_at k hk 7 (by omega)
  simp only [h0, h1, h2, h3, h4, h5, h6, h7, b2n_dec]
  unfold want
  clear h0 h1 h2 h3 h4 h5 h6 h7
  have hc : (k ≤ 12) ∨ (12 < k ∧ k ≤ 76) ∨ (76 < k ∧ k ≤ 140) ∨ (140 < k ∧ k ≤ 204) ∨ (204 < k ∧ k ≤ 268) ∨ (268 < k ∧ k ≤ 332) ∨ (332 < k ∧ k ≤ 396) ∨ (396 < k ∧ k ≤ 460) ∨ (460 < k ∧ k ≤ 524) ∨ (524 < k ∧ k ≤ 588) := by omega
  rcases hc with hc | hc | hc | hc | hc | hc | hc | hc | hc | hc <;> (
    (first | rw [if_pos (show 12 < k by omega)] | rw [if_neg (show ¬ 12 < k by omega)])
    (first | rw [if_pos (show 76 < k by omega)] | rw [if_neg (show ¬ 76 < k by omega)])
    (first | rw [if_pos (show 140 < k by omega)] | rw [if_neg (show ¬ 140 < k by omega)])
    (first | rw [if_pos (show 204 < k by omega)] | rw [if_neg (show ¬ 204 < k by omega)])
    (first | rw [if_pos (show 268 < k by omega)] | rw [if_neg (show ¬ 268 < k by omega)])
    (first | rw [if_pos (show 332 < k by omega)] | rw [if_neg (show ¬ 332 < k by omega)])
    (first | rw [if_pos (show 396 < k by omega)] | rw [if_neg (show ¬ 396 < k by omega)])
    (first | rw [if_pos (show 460 < k by omega)] | rw [if_neg (show ¬ 460 < k by omega)])
    (first | rw [if_pos (show 524 < k by omega)] | rw [if_neg (show ¬ 524 < k by omega)])
    (try (first | rw [if_pos (show k > 76 by omega)] | rw [if_neg (show ¬ k > 76 by omega)]))
    (try (first | rw [if_pos (show k > 12 by omega)] | rw [if_neg (show ¬ k > 12 by omega)]))
    (try omega))
theorem inds_one (x : Int) (h0 : 0 ≤ x) (h1 : x < 588) : (indsF [x] : Int) = if x ≥ 76 then 2 else if x ≥ 12 then 1 else 0 := by
  unfold indsF
  by_cases hd : isD x = true
  · have hb := kid_bd hd
    have hs : isS x = false := by
      unfold isD at hd; unfold isS
      simp only [Bool.and_eq_true, decide_eq_true_eq] at hd
      rw [decide_eq_false (show ¬ x < 76 by omega), Bool.and_false]
    have hge : x ≥ 76 := by
      unfold isD at hd
      simp only [Bool.and_eq_true, decide_eq_true_eq] at hd
      omega
    rw [if_pos hge]
    have hk : kidsL [x] = [kidOf x] := by unfold kidsL; simp [hd]
    rw [hk]
    have e : cnt8 (fun c => [kidOf x].contains c) = 1 := by
      generalize kidOf x = y at hb
      have hx : y = 0 ∨ y = 1 ∨ y = 2 ∨ y = 3 ∨ y = 4 ∨ y = 5 ∨ y = 6 ∨ y = 7 := by omega
      rcases hx with rfl | rfl | rfl | rfl | rfl | rfl | rfl | rfl <;> decide +kernel
    rw [e]
    simp [hd, hs]; decide
  · replace hd := Bool.eq_false_iff.mpr hd
    have hlt : ¬ x ≥ 76 := by
      unfold isD at hd
      simp only [Bool.and_eq_false_iff, decide_eq_false_iff_not] at hd
      omega
    rw [if_neg hlt]
    have hk : kidsL [x] = [] := by unfold kidsL; simp [hd]
    rw [hk]
    have e : cnt8 (fun c => ([] : List Int).contains c) = 0 := by decide +kernel
    rw [e]
    by_cases hs : isS x = true
    · have : x ≥ 12 := by
        unfold isS at hs
        simp only [Bool.and_eq_true, decide_eq_true_eq] at hs
        omega
      rw [if_pos this]
      simp [hd, hs]; decide
    · replace hs := Bool.eq_false_iff.mpr hs
      have : ¬ x ≥ 12 := by
        unfold isS at hs
        simp only [Bool.and_eq_false_iff, decide_eq_false_iff_not] at hs
        omega
      rw [if_neg this]
      simp [hd, hs]; decide
theorem inds_bad (f : Int) (h0 : 0 ≤ f) : indsF [-1 - f, 588 + f] = 0 := by
  have a1 : isD (-1 - f) = false := by unfold isD; rw [decide_eq_false (show ¬ 76 ≤ -1 - f by omega)]; rfl
  have a2 : isD (588 + f) = false := by unfold isD; rw [decide_eq_false (show ¬ 588 + f < 588 by omega), Bool.and_false]
  have a3 : isS (-1 - f) = false := by unfold isS; rw [decide_eq_false (show ¬ 12 ≤ -1 - f by omega)]; rfl
  have a4 : isS (588 + f) = false := by unfold isS; rw [decide_eq_false (show ¬ 588 + f < 76 by omega), Bool.and_false]
  have hk : kidsL [-1 - f, 588 + f] = [] := by unfold kidsL; simp [a1, a2]
  unfold indsF
  rw [hk, List.any_cons, List.any_cons, List.any_cons, List.any_cons, List.any_nil, List.any_nil, a1, a2, a3, a4]
  decide +kernel
theorem way_kind (f : Int) (h0 : 0 ≤ f) (h1 : f < 588) : ∃ r2 r3 r4, ∀ k, 1 ≤ k → span_Way.f k f = some ((indsF [f] : Int), r2, r3, r4) := by
  have key : ∃ r2 r3 r4, span_Way.f 1 f = some ((indsF [f] : Int), r2, r3, r4) := by
    rw [inds_one f h0 h1]
    by_cases c1 : f ≥ 76
    · rw [if_pos c1]
      exact ⟨_, _, _, way_dbl (by unfold isD; rw [decide_eq_true (show 76 ≤ f from c1), decide_eq_true h1]; rfl)⟩
    · rw [if_neg c1]
      by_cases c2 : f ≥ 12
      · rw [if_pos c2]
        exact ⟨_, _, _, way_sgl (by unfold isS; rw [decide_eq_true (show 12 ≤ f from c2), decide_eq_true (show f < 76 by omega)]; rfl)⟩
      · rw [if_neg c2]
        exact ⟨_, _, _, way_str h0 (by omega)⟩
  obtain ⟨r2, r3, r4, h⟩ := key
  exact ⟨r2, r3, r4, fun k hk => at_rounds (fun k => span_Way.mono f k) hk h⟩

theorem last (n : Nat) (hn : n ≤ 588) (f : Int) (h0 : 0 ≤ f) (h1 : f < 588) : ∃ K, ∀ k, K ≤ k → beguinagelaw10_SpanCounts.j2 k (n : Int) f (twice n) (want n : Int) = some true := by
  obtain ⟨K, hK⟩ := s_awake
  obtain ⟨r2, r3, r4, hw⟩ := way_kind f h0 h1
  refine ⟨K + 2, fun k hk => ?_⟩
  obtain ⟨k, rfl⟩ : ∃ m, k = m + 1 := ⟨k - 1, by omega⟩
  have f1 : ∀ l, span_Inds.f l = some (indsF l : Int) := fun l => rfl
  have e1 : (indsF (twice n) : Int) = (want n : Int) := by rw [inds_twice_all n hn]
  have w1 : wrap64 (-1 - f) = -1 - f := w64 (by omega) (by omega)
  have w2 : wrap64 (588 + f) = 588 + f := w64 (by omega) (by omega)
  have e2 : (indsF [wrap64 (-1 - f), wrap64 (588 + f)] : Int) = 0 := by rw [w1, w2, inds_bad f h0]; rfl
  clear w1 w2
  have b1 : Aside0 (span_Blocks.f (wrap64 ((n : Int) * 256)) = some (n : Int)) := Aside0.mk (by
    unfold span_Blocks.f
    rw [w64 (by omega) (by omega)]; congr 1; unfold mx mn; omega)
  have b2 : Aside0 (span_Blocks.f (wrap64 (wrap64 ((n : Int) * 256) + 1)) = some (mn (wrap64 ((n : Int) + 1)) 588)) := Aside0.mk (by
    unfold span_Blocks.f
    rw [w64 (x := (n : Int) * 256) (by omega) (by omega), w64 (x := (n : Int) * 256 + 1) (by omega) (by omega), w64 (x := (n : Int) + 1) (by omega) (by omega)]; congr 1; unfold mx mn; omega)
  have b3 : Aside0 (span_Blocks.f (wrap64 (-(n : Int))) = some 0) := Aside0.mk (by
    unfold span_Blocks.f
    rw [w64 (by omega) (by omega)]; congr 1; unfold mx mn; omega)
  rw [beguinagelaw10_SpanCounts.j2, f1, Option.bind_some, hw k (by omega), Option.bind_some, f1, Option.bind_some, if_pos e1, if_pos rfl, f1, Option.bind_some, if_pos e2, b1.out, Option.bind_some, if_pos rfl, b2.out, Option.bind_some, if_pos rfl, b3.out, Option.bind_some, if_pos rfl, hK k (by omega), Option.bind_some]

theorem mid (n : Nat) (hn : n ≤ 588) (f : Int) (h0 : 0 ≤ f) (h1 : f < 588) (x9 : Int) (hx : x9 = if n > 12 then 1 else 0) : ∃ K, ∀ k, K ≤ k → beguinagelaw10_SpanCounts.j1 k (n : Int) f (twice n) x9 = some true := by
  obtain ⟨K, hK⟩ := last n hn f h0 h1
  refine ⟨K + 1, fun k hk => ?_⟩
  obtain ⟨k, rfl⟩ : ∃ m, k = m + 1 := ⟨k - 1, by omega⟩
  have hk2 : K ≤ k := by omega
  by_cases c : (n : Int) > 76
  · have hx1 : x9 = 1 := by rw [hx, if_pos (by omega)]
    have e : Aside0 (wrap64 (wrap64 (x9 + 1) + wrap64 (Int.tdiv (wrap64 (wrap64 (wrap64 (wrap64 ((n : Int) - 12) - 64) + 64) - 1)) 64)) = (want n : Int)) := Aside0.mk (by
      rw [hx1, w64 (x := (1 : Int) + 1) (by omega) (by omega), w64 (x := (n : Int) - 12) (by omega) (by omega), w64 (x := (n : Int) - 12 - 64) (by omega) (by omega), w64 (x := (n : Int) - 12 - 64 + 64) (by omega) (by omega), w64 (x := (n : Int) - 12 - 64 + 64 - 1) (by omega) (by omega), Int.tdiv_eq_ediv_of_nonneg (by omega)]
      rw [w64 (x := ((n : Int) - 12 - 64 + 64 - 1) / 64) (by omega) (by omega), w64 (by omega) (by omega)]
      unfold want
      rw [if_pos (by omega)]
      omega)
    rw [beguinagelaw10_SpanCounts.j1, if_pos c, e.out]
    exact hK k hk2
  · have e : x9 = (want n : Int) := by
      have c3 : ¬ n > 76 := by omega
      unfold want
      by_cases c2 : n > 12
      · rw [hx, if_pos c2, if_neg c3, if_pos c2]; rfl
      · rw [hx, if_neg c2, if_neg c3, if_neg c2]; rfl
    rw [beguinagelaw10_SpanCounts.j1, if_neg c, e]
    exact hK k hk2

theorem build (n : Nat) (hn : n ≤ 588) (f : Int) (h0 : 0 ≤ f) (h1 : f < 588) (d : Nat) : ∀ j, j + d = n → ∃ K, ∀ k, K ≤ k → beguinagelaw10_SpanCounts.l0 k (n : Int) f (twice j) (j : Int) = some true := by
  induction d with
  | zero =>
    intro j hj
    obtain rfl : j = n := by omega
    by_cases c : (j : Int) > 12
    · obtain ⟨K, hK⟩ := mid j hn f h0 h1 1 (by rw [if_pos (by omega)])
      refine ⟨K + 1, fun k hk => ?_⟩
      obtain ⟨k, rfl⟩ : ∃ m, k = m + 1 := ⟨k - 1, by omega⟩
      rw [beguinagelaw10_SpanCounts.l0, if_neg (by omega), if_pos c]
      exact hK k (by omega)
    · obtain ⟨K, hK⟩ := mid j hn f h0 h1 0 (by rw [if_neg (by omega)])
      refine ⟨K + 1, fun k hk => ?_⟩
      obtain ⟨k, rfl⟩ : ∃ m, k = m + 1 := ⟨k - 1, by omega⟩
      rw [beguinagelaw10_SpanCounts.l0, if_neg (by omega), if_neg c]
      exact hK k (by omega)
  | succ d ih =>
    intro j hj
    obtain ⟨K, hK⟩ := ih (j + 1) (by omega)
    refine ⟨K + 1, fun k hk => ?_⟩
    obtain ⟨k, rfl⟩ : ∃ m, k = m + 1 := ⟨k - 1, by omega⟩
    have hk2 : K ≤ k := by omega
    have c1 : (j : Int) < (n : Int) := by omega
    have c2 : (twice j).length + ([(j : Int), (j : Int)] : List Int).length < 17592186044416 := by rw [twice_length]; simp only [List.length_cons, List.length_nil]; omega
    have hw : Aside0 (wrap64 ((j : Int) + 1) = ((j + 1 : Nat) : Int)) := Aside0.mk (by rw [w64 (by omega) (by omega)]; rfl)
    rw [beguinagelaw10_SpanCounts.l0, if_pos c1, Option.bind_some, if_pos c2, hw.out, ← twice_succ]
    exact hK k hk2
end Sc

theorem SpanCounts : beguinagelaw10_SpanCounts.Pure := by
  intro a0 a1 _ _
  have v0 := Int.emod_nonneg a0 (show (589 : Int) ≠ 0 by omega)
  have v1 := Int.emod_lt_of_pos a0 (show (0 : Int) < 589 by omega)
  have u0 := Int.emod_nonneg a1 (show (588 : Int) ≠ 0 by omega)
  have u1 := Int.emod_lt_of_pos a1 (show (0 : Int) < 588 by omega)
  obtain ⟨n, hn⟩ := Int.eq_ofNat_of_zero_le v0
  obtain ⟨K, hK⟩ := Sc.build n (by omega) (a1 % 588) u0 u1 n 0 (by omega)
  refine ⟨K, ?_⟩
  have p1 : beguinagelaw00_Place.f a0 589 = some (n : Int) := by rw [← hn]; exact place a0 (by omega) (by omega)
  have p2 : beguinagelaw00_Place.f a1 588 = some (a1 % 588) := place a1 (by omega) (by omega)
  unfold beguinagelaw10_SpanCounts.f
  rw [p1, Option.bind_some, p2, Option.bind_some]
  exact hK K (Nat.le_refl _)
end Go.Proofs.Ytbdghlneiblkcaa.Pure
