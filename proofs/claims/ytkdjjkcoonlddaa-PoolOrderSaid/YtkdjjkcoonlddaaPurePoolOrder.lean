/- PoolOrder, the plain law: of the numbers below k the multiples of e are a house's; the others are free, rising. -/
import Derived.Test.YtkdjjkcoonlddaaPPoolx9
import Derived.Test.YtkdjjkcoonlddaaPoolPlain
namespace Go.Proofs.Ytkdjjkcoonlddaa.Pure
open Go.RowKit Go.Proofs.Ytkdjjkcoonlddaa.PPool Go.Proofs.YtkdjjkcoonlddaaW.PrintWords Go.Proofs.YtkdjjkcoonlddaaW.PrintLast Go.Proofs.YtkdjjkcoonlddaaW.PrintMore
open Go.Proofs.Ytkdjjkcoonlddaa.Aid
set_option linter.unusedVariables false
set_option linter.unusedSimpArgs false
namespace Po

/-- The first j multiples of e. -/
def mult (e j : Nat) : List Int := (List.range j).map fun i => ((i * e : Nat) : Int)
theorem mult_length (e j : Nat) : (mult e j).length = j := by unfold mult; simp
theorem mult_succ (e j : Nat) : mult e (j + 1) = mult e j ++ [((j * e : Nat) : Int)] := by
  unfold mult
  rw [List.range_succ, List.map_append]; rfl
theorem mem_mult (e j : Nat) (x : Int) : x ∈ mult e j ↔ ∃ i, i < j ∧ x = ((i * e : Nat) : Int) := by
  unfold mult
  rw [List.mem_map]
  constructor
  · rintro ⟨i, hi, rfl⟩; exact ⟨i, List.mem_range.1 hi, rfl⟩
  · rintro ⟨i, hi, rfl⟩; exact ⟨i, List.mem_range.2 hi, rfl⟩

/-- What is no multiple, below k. -/
def rest (e k : Nat) : List Nat := (List.range k).filter fun s => decide (s % e ≠ 0)
theorem rest_succ (e k : Nat) : rest e (k + 1) = rest e k ++ if k % e = 0 then [] else [k] := by
  unfold rest
  rw [List.range_succ, List.filter_append]
  congr 1
  by_cases h : k % e = 0
  · rw [if_pos h]; simp [h]
  · rw [if_neg h]; simp [h]
theorem rest_count (e : Nat) (he : 2 ≤ e) (K : Nat) : ∀ j, K ≤ j * e → (∀ i, i < j → i * e < K) → (rest e K).length + j = K := by
  induction K with
  | zero =>
    intro j _ h
    by_cases hj : j = 0
    · subst hj; rfl
    · exact absurd (h 0 (by omega)) (by omega)
  | succ K ih =>
    intro j h0 h1
    rw [rest_succ, List.length_append]
    by_cases hk : K % e = 0
    · obtain ⟨i0, hi0⟩ : ∃ i0, K = i0 * e := ⟨K / e, by have := Nat.div_add_mod K e; rw [hk, Nat.add_zero] at this; rw [Nat.mul_comm]; exact this.symm⟩
      have hlt : i0 < j := by
        by_cases h : i0 < j
        · exact h
        · have := Nat.mul_le_mul_right e (show j ≤ i0 by omega); omega
      have hj : j = i0 + 1 := by
        by_cases h : i0 + 1 < j
        · have := h1 (i0 + 1) h
          rw [Nat.succ_mul] at this; omega
        · omega
      have := ih i0 (by omega) (fun i hi => by
        have := Nat.mul_lt_mul_of_pos_right hi (show 0 < e by omega)
        omega)
      rw [if_pos hk]
      simp only [List.length_nil]
      omega
    · have := ih j (by omega) (fun i hi => by
        have h2 := h1 i hi
        have h3 : i * e ≠ K := fun h => hk (by rw [← h]; exact Nat.mul_mod_left i e)
        omega)
      rw [if_neg hk]
      simp only [List.length_cons, List.length_nil]
      omega

/-- The houses. -/
def hs (a : List Int) : List S36 := [(⟨0, 0, (⟨0, 0, 0, 0, 0, 0, 0⟩ : S34), ([] : List Int)⟩ : S36), (⟨1, 0, (⟨0, 0, 0, 0, 0, 0, 0⟩ : S34), a⟩ : S36), (⟨2, 0, (⟨0, 0, 0, 0, 0, 0, 0⟩ : S34), (([500, (-7)] : List Int))⟩ : S36)]
theorem segs_hs (a : List Int) : segsOf (hs a) = a ++ [500, -7] := by
  unfold segsOf hs
  simp
theorem sane_hs {e j K : Nat} (hK : K < 150) (hj : ∀ i, i < j → i * e < K) (hj2 : j ≤ K + 1) : sane (hs (mult e j)) := by
  refine ⟨by rw [segs_hs, List.length_append, mult_length]; simp only [List.length_cons, List.length_nil]; unfold maxLen; omega, fun x hx => ?_⟩
  rw [segs_hs] at hx
  rcases List.mem_append.1 hx with h | h
  · obtain ⟨i, hi, rfl⟩ := (mem_mult e j x).1 h
    have := hj i hi
    exact wf_nat (by omega)
  · simp only [List.mem_cons, List.not_mem_nil, or_false] at h
    rcases h with rfl | rfl <;> decide +kernel
theorem free_hs {e j K : Nat} (he : 2 ≤ e) (hK : K < 150) (h0 : K ≤ j * e) (hj : ∀ i, i < j → i * e < K) : freeTo (hs (mult e j)) K = (rest e K).map Int.ofNat := by
  unfold freeTo rest
  rw [List.filter_map]
  congr 1
  refine List.filter_congr fun s hs' => ?_
  have hs : s < K := List.mem_range.1 hs'
  rw [Bool.eq_iff_iff]
  simp only [Function.comp, Bool.not_eq_true', decide_eq_true_eq]
  rw [segs_hs, ← Bool.not_eq_true, List.contains_iff_mem, List.mem_append]
  constructor
  · intro h hm
    refine h (Or.inl ((mem_mult _ _ _).2 ⟨s / e, ?_, ?_⟩))
    · have h1 := Nat.div_add_mod s e
      by_cases h2 : s / e < j
      · exact h2
      · have h3 := Nat.mul_le_mul_right e (show j ≤ s / e by omega)
        rw [Nat.mul_comm e] at h1
        omega
    · have h1 := Nat.div_add_mod s e
      rw [Nat.mul_comm e] at h1
      show ((s : Nat) : Int) = ((s / e * e : Nat) : Int)
      congr 1; omega
  · rintro hm (h | h)
    · obtain ⟨i, hi, h⟩ := (mem_mult _ _ _).1 h
      have h2 : s = i * e := Int.ofNat.inj h
      exact hm (by rw [h2]; exact Nat.mul_mod_left i e)
    · simp only [List.mem_cons, List.not_mem_nil, or_false] at h
      have h5 : ((s : Nat) : Int) = 500 ∨ ((s : Nat) : Int) = -7 := h
      omega
theorem rest_sorted (e K : Nat) : (rest e K).Pairwise (· < ·) := List.Pairwise.filter _ List.pairwise_lt_range
theorem rest_mem {e K x : Nat} (h : x ∈ rest e K) : x < K ∧ x % e ≠ 0 := by
  unfold rest at h
  have := List.mem_filter.1 h
  exact ⟨List.mem_range.1 this.1, of_decide_eq_true this.2⟩

theorem rd_map (g : List Nat) (i : Nat) (h : i < g.length) : rd (g.map Int.ofNat) (i : Int) = (g[i] : Int) := by
  unfold rd
  rw [Int.toNat_natCast, List.getD_eq_getElem?_getD, List.getElem?_map, List.getElem?_eq_getElem h]; rfl

theorem fin (a2 : Int) (K e : Nat) (hK : K < 150) (l : List S36) (f : List Int) (hf : freeOf (K : Int) l = f) (hl : f.length ≤ 200) (hsane : sane l) (x8 : Int) (i : Nat) (hi : i = f.length) :
    ∃ N, ∀ k, N ≤ k → beguinagelaw12_PoolOrder.l1 k a2 (K : Int) x8 l f (i : Int) = some true := by
  have v0 := Int.emod_nonneg a2 (show (200 : Int) ≠ 0 by omega)
  have v1 := Int.emod_lt_of_pos a2 (show (0 : Int) < 200 by omega)
  obtain ⟨m, hm⟩ := Int.eq_ofNat_of_zero_le v0
  have hpl : beguinagelaw00_Place.f a2 200 = some (m : Int) := by rw [p_place _ (by omega) (by omega), hm]
  have t2 : pool_Take.f (K : Int) l (wrap64 (-1 - (m : Int))) = some ([], false) := by
    unfold pool_Take.f
    rw [if_pos hsane, if_pos (Or.inl (by rw [w64 (by omega) (by omega)]; omega))]
  by_cases hc : (m : Int) ≤ (f.length : Int)
  · have t1 : pool_Take.f (K : Int) l (m : Int) = some (f.take m, true) := by
      unfold pool_Take.f
      rw [if_pos hsane, hf, if_neg (by omega), Int.toNat_natCast]
    obtain ⟨N, hN⟩ := same_self (f.take m) (by rw [List.length_take]; omega)
    refine ⟨N + 1, fun k hk => ?_⟩
    obtain ⟨k, rfl⟩ : ∃ m, k = m + 1 := ⟨k - 1, by omega⟩
    have c1 : 0 ≤ (m : Int) := by omega
    rw [beguinagelaw12_PoolOrder.l1, if_neg (by omega), hpl, Option.bind_some, t1, Option.bind_some, t2, Option.bind_some, decide_eq_true hc, if_pos (show ((List.take m f, true).2 == true) = true from rfl), if_pos rfl, if_pos c1, if_pos hc, Int.toNat_natCast, hN k (by omega), Option.bind_some, if_pos rfl, if_neg Bool.false_ne_true, p_awake, Option.bind_some]
  · have t1 : pool_Take.f (K : Int) l (m : Int) = some ([], false) := by
      unfold pool_Take.f
      rw [if_pos hsane, hf, if_pos (Or.inr (by omega))]
    refine ⟨1, fun k hk => ?_⟩
    obtain ⟨k, rfl⟩ : ∃ m, k = m + 1 := ⟨k - 1, by omega⟩
    rw [beguinagelaw12_PoolOrder.l1, if_neg (by omega), hpl, Option.bind_some, t1, Option.bind_some, t2, Option.bind_some, decide_eq_false hc, if_pos (show ((([] : List Int), false).2 == false) = true from rfl), if_neg Bool.false_ne_true, if_neg Bool.false_ne_true, p_awake, Option.bind_some]

theorem look (a2 : Int) (K e : Nat) (he : 2 ≤ e) (he2 : e < 12) (hK : K < 150) (l : List S36) (hf : freeOf (K : Int) l = (rest e K).map Int.ofNat) (hl : (rest e K).length ≤ 200) (hsane : sane l) (d : Nat) :
    ∀ i : Nat, i + d = (rest e K).length → ∃ N, ∀ k, N ≤ k → beguinagelaw12_PoolOrder.l1 k a2 (K : Int) (e : Int) l ((rest e K).map Int.ofNat) (i : Int) = some true := by
  have hfl : ((rest e K).map Int.ofNat).length = (rest e K).length := List.length_map _
  induction d with
  | zero =>
    intro i hi
    exact fin a2 K e hK l _ hf (by rw [hfl]; exact hl) hsane _ i (by omega)
  | succ d ih =>
    intro i hi
    obtain ⟨N, hN⟩ := ih (i + 1) (by omega)
    refine ⟨N + 1, fun k hk => ?_⟩
    obtain ⟨k, rfl⟩ : ∃ m, k = m + 1 := ⟨k - 1, by omega⟩
    have hk2 : N ≤ k := by omega
    have hlt : i < (rest e K).length := by omega
    have c1 : (i : Int) < ((((rest e K).map Int.ofNat).length : Nat) : Int) := by rw [hfl]; omega
    have c2 : 0 ≤ (i : Int) := by omega
    have c3 : ¬ (e : Int) = 0 := by omega
    obtain ⟨x, hx⟩ : ∃ x, (rest e K)[i] = x := ⟨_, rfl⟩
    have hxm := rest_mem (e := e) (K := K) (x := x) (by rw [← hx]; exact List.getElem_mem hlt)
    have hrd : rd ((rest e K).map Int.ofNat) (i : Int) = (x : Int) := by rw [rd_map _ _ hlt, hx]
    have c4 : ¬ Int.tmod (x : Int) (e : Int) = 0 := by
      rw [tmod_pos' _ (by omega)]
      have := hxm.2
      intro h
      apply this
      have h2 : ((x % e : Nat) : Int) = 0 := by rw [Int.natCast_emod]; exact h
      omega
    have hx1 := hxm.1
    have c5 : ¬ (x : Int) < 0 := by omega
    have c6 : ¬ (x : Int) ≥ (K : Int) := by omega
    have hw : Aside0 (wrap64 ((i : Int) + 1) = ((i + 1 : Nat) : Int)) := Aside0.mk (by rw [w64 (by omega) (by omega)]; rfl)
    by_cases hz : i = 0
    · have c7 : ¬ (i : Int) > 0 := by omega
      rw [beguinagelaw12_PoolOrder.l1, if_pos c1, if_pos c2, if_neg c3, hrd, if_neg c4, if_neg c7, if_neg c5, if_neg c6, hw.out]
      exact hN k hk2
    · obtain ⟨p, rfl⟩ : ∃ p, i = p + 1 := ⟨i - 1, by omega⟩
      have c7 : ((p + 1 : Nat) : Int) > 0 := by omega
      have hp : p < (rest e K).length := by omega
      have hlt2 : (rest e K)[p] < x := by
        rw [← hx]
        exact (List.pairwise_iff_getElem.1 (rest_sorted e K)) p (p + 1) hp hlt (by omega)
      have hwp : Aside0 (wrap64 (((p + 1 : Nat) : Int) - 1) = (p : Int)) := Aside0.mk (by rw [w64 (by omega) (by omega)]; omega)
      have c8 : 0 ≤ (p : Int) := by omega
      have c9 : (p : Int) < ((((rest e K).map Int.ofNat).length : Nat) : Int) := by rw [hfl]; omega
      have c10 : ¬ (x : Int) ≤ ((rest e K)[p] : Int) := by omega
      rw [beguinagelaw12_PoolOrder.l1, if_pos c1, if_pos c2, if_neg c3, hrd, if_neg c4, if_pos c7, hwp.out, if_pos c8, if_pos c9, rd_map _ _ hp, if_neg c10, if_neg c5, if_neg c6, hw.out]
      exact hN k hk2

theorem build (a2 : Int) (K e : Nat) (he : 2 ≤ e) (he2 : e < 12) (hK : K < 150) (d : Nat) : ∀ j : Nat, K ≤ j * e + d → (∀ i, i < j → i * e < K) → j ≤ K + 1 → 
    ∃ N, ∀ k, N ≤ k → beguinagelaw12_PoolOrder.l0 k a2 (K : Int) (e : Int) (mult e j) ((j * e : Nat) : Int) = some true := by
  have fin2 : ∀ j, K ≤ j * e → (∀ i, i < j → i * e < K) → j ≤ K + 1 → ∃ N, ∀ k, N ≤ k → beguinagelaw12_PoolOrder.l0 k a2 (K : Int) (e : Int) (mult e j) ((j * e : Nat) : Int) = some true := by
    intro j h0 h1 h2
    have hfr := free_hs he hK h0 h1
    have hsane := sane_hs hK h1 h2
    have hcount := rest_count e he K j h0 h1
    have hfree : freeOf (K : Int) (hs (mult e j)) = (rest e K).map Int.ofNat := by rw [free_nat (by omega), hfr]
    obtain ⟨N, hN⟩ := look a2 K e he he2 hK (hs (mult e j)) hfree (by omega) hsane (rest e K).length 0 (by omega)
    refine ⟨N + 1, fun k hk => ?_⟩
    obtain ⟨k, rfl⟩ : ∃ m, k = m + 1 := ⟨k - 1, by omega⟩
    have hk2 : N ≤ k := by omega
    have f1 : pool_Free.f (K : Int) (hs (mult e j)) = some ((rest e K).map Int.ofNat) := by
      unfold pool_Free.f
      rw [if_pos hsane, hfree]
    have c1 : ¬ ((j * e : Nat) : Int) < (K : Int) := by omega
    have m1 : Aside0 (((((rest e K).map Int.ofNat).length : Nat) : Int) = wrap64 ((K : Int) - ((mult e j).length : Int))) := Aside0.mk (by
      rw [List.length_map, mult_length, w64 (by omega) (by omega)]; omega)
    rw [beguinagelaw12_PoolOrder.l0, if_neg c1, Option.bind_some, show ([(⟨0, 0, (⟨0, 0, 0, 0, 0, 0, 0⟩ : S34), ([] : List Int)⟩ : S36), (⟨1, 0, (⟨0, 0, 0, 0, 0, 0, 0⟩ : S34), mult e j⟩ : S36), (⟨2, 0, (⟨0, 0, 0, 0, 0, 0, 0⟩ : S34), (([500, (-7)] : List Int))⟩ : S36)] : List S36) = hs (mult e j) from rfl, f1, Option.bind_some, if_pos m1.out]
    exact hN k hk2
  induction d with
  | zero => intro j h0 h1 h2; exact fin2 j (by omega) h1 h2
  | succ d ih =>
    intro j h0 h1 h2
    by_cases hlt : j * e < K
    · have hjk : j ≤ j * e := Nat.le_mul_of_pos_right j (by omega)
      obtain ⟨N, hN⟩ := ih (j + 1) (by rw [Nat.succ_mul]; omega) (fun i hi => by
        by_cases h : i = j
        · rw [h]; exact hlt
        · exact h1 i (by omega)) (by omega)
      refine ⟨N + 1, fun k hk => ?_⟩
      obtain ⟨k, rfl⟩ : ∃ m, k = m + 1 := ⟨k - 1, by omega⟩
      have hk2 : N ≤ k := by omega
      have c1 : ((j * e : Nat) : Int) < (K : Int) := by omega
      have hw : Aside0 (wrap64 (((j * e : Nat) : Int) + (e : Int)) = (((j + 1) * e : Nat) : Int)) := Aside0.mk (by
        rw [Nat.succ_mul]
        obtain ⟨q, hq⟩ : ∃ q, j * e = q := ⟨_, rfl⟩
        rw [hq] at hlt ⊢
        rw [w64 (by omega) (by omega)]; omega)
      rw [beguinagelaw12_PoolOrder.l0, if_pos c1, if_pos (by rw [mult_length]; omega), hw.out, ← mult_succ]
      exact hN k hk2
    · exact fin2 j (by omega) h1 h2
end Po

theorem PoolOrder : beguinagelaw12_PoolOrder.Pure := by
  intro a0 a1 a2 _ _ _
  have v0 := Int.emod_nonneg a0 (show (150 : Int) ≠ 0 by omega)
  have v1 := Int.emod_lt_of_pos a0 (show (0 : Int) < 150 by omega)
  have u0 := Int.emod_nonneg a1 (show (10 : Int) ≠ 0 by omega)
  have u1 := Int.emod_lt_of_pos a1 (show (0 : Int) < 10 by omega)
  obtain ⟨n, hn⟩ := Int.eq_ofNat_of_zero_le v0
  obtain ⟨e, he⟩ := Int.eq_ofNat_of_zero_le (show 0 ≤ 2 + a1 % 10 by omega)
  obtain ⟨K, hK⟩ := Po.build a2 n e (by omega) (by omega) (by omega) n 0 (by omega) (fun i hi => by omega) (by omega)
  refine ⟨K, ?_⟩
  unfold beguinagelaw12_PoolOrder.f
  rw [p_place _ (by omega) (by omega), hn, Option.bind_some, p_place _ (by omega) (by omega), Option.bind_some, w64 (by omega) (by omega), he]
  have := hK K (Nat.le_refl _)
  rw [Nat.zero_mul] at this
  exact this
end Go.Proofs.Ytkdjjkcoonlddaa.Pure
