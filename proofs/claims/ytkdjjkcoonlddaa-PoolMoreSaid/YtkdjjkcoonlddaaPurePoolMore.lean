/- PoolMore, the plain law: the houses' segments are the numbers from 0 on, one house behind the other. -/
import Derived.Test.YtkdjjkcoonlddaaPPoolx10
import Derived.Test.YtkdjjkcoonlddaaPoolPlain
import Derived.Test.YtkdjjkcoonlddaaSized
namespace Go.Proofs.Ytkdjjkcoonlddaa.Pure
open Go.RowKit Go.Proofs.Ytkdjjkcoonlddaa.PPool Go.Proofs.YtkdjjkcoonlddaaW.PrintWords Go.Proofs.YtkdjjkcoonlddaaW.PrintLast Go.Proofs.YtkdjjkcoonlddaaW.PrintMore
open Go.Proofs.Ytkdjjkcoonlddaa.Aid
set_option linter.unusedVariables false
set_option linter.unusedSimpArgs false
namespace Pm

theorem fin (l : List Int) (K0 : Int) (hs : List S36) (A : Int) (i : Int) : ∃ K, ∀ k, K ≤ k → beguinagelaw12_PoolMore.j1 k l K0 hs A i false = some true := by
  refine ⟨1, fun k hk => ?_⟩
  obtain ⟨k, rfl⟩ : ∃ m, k = m + 1 := ⟨k - 1, by omega⟩
  rw [beguinagelaw12_PoolMore.j1, if_neg Bool.false_ne_true, p_awake, Option.bind_some]

theorem inner (l : List Int) (K0 : Nat) (hK0 : K0 ≤ 150) (hs : List S36) (A i n : Nat) (hA : A ≤ 11 * i) (hi : i < 10) (hn : n < 12) (hl : hs.length = i) (hsg : segsOf hs = rngF 0 A)
    (next : ∀ h : S36, h.f3 = rngF A n → ∃ K, ∀ k, K ≤ k → beguinagelaw12_PoolMore.l0 k l (K0 : Int) (hs ++ [h]) ((A + n : Nat) : Int) ((i + 1 : Nat) : Int) = some true) (d : Nat) :
    ∀ j, j + d = n → ∃ K, ∀ k, K ≤ k → beguinagelaw12_PoolMore.l1 k l (K0 : Int) hs ((A + j : Nat) : Int) (i : Int) (n : Int) (rngF A j) (j : Int) = some true := by
  induction d with
  | zero =>
    intro j hj
    obtain rfl : j = n := by omega
    obtain ⟨H, hH⟩ : ∃ H : S36, H = (⟨wrap64 (1 + (Int.tmod (i : Int) 2)), 0, (⟨0, 0, 0, 0, 0, 0, 0⟩ : S34), rngF A j⟩ : S36) := ⟨_, rfl⟩
    have hf3 : H.f3 = rngF A j := by rw [hH]
    obtain ⟨K, hK⟩ := next H hf3
    have hsg2 : segsOf (hs ++ [H]) = rngF 0 (A + j) := by
      rw [segs_snoc, hsg, hf3]
      have := rngF_append 0 A j
      rwa [Nat.zero_add] at this
    have f1 : pool_Free.f (K0 : Int) hs = some (rngF A (K0 - A)) := by
      unfold pool_Free.f
      rw [if_pos (sane_rng hsg (by omega)), free_nat (by omega), freeTo_rng hs A hsg]
    have f2 : pool_Free.f (K0 : Int) (hs ++ [H]) = some (rngF (A + j) (K0 - (A + j))) := by
      unfold pool_Free.f
      rw [if_pos (sane_rng hsg2 (by omega)), free_nat (by omega), freeTo_rng _ _ hsg2]
    have htk : (hs ++ [H]).take i = hs := by rw [← hl]; exact List.take_left
    refine ⟨K + 1, fun k hk => ?_⟩
    obtain ⟨k, rfl⟩ : ∃ m, k = m + 1 := ⟨k - 1, by omega⟩
    have hk2 : K ≤ k := by omega
    have c1 : hs.length < 1466015503701 := by omega
    have m1 : Aside0 (((K0 - A : Nat) : Int) = mx (wrap64 (wrap64 ((K0 : Int) - ((A + j : Nat) : Int)) + (j : Int))) 0) := Aside0.mk (by
      rw [w64 (x := (K0 : Int) - ((A + j : Nat) : Int)) (by omega) (by omega), w64 (by omega) (by omega)]; unfold mx; omega)
    have m2 : Aside0 (((K0 - (A + j) : Nat) : Int) = mx (wrap64 ((K0 : Int) - ((A + j : Nat) : Int))) 0) := Aside0.mk (by
      rw [w64 (by omega) (by omega)]; unfold mx; omega)
    have hw : Aside0 (wrap64 ((i : Int) + 1) = ((i + 1 : Nat) : Int)) := Aside0.mk (by rw [w64 (by omega) (by omega)]; rfl)
    have c2 : 0 ≤ (i : Int) := by omega
    have c3 : (i : Int) ≤ ((hs ++ [H]).length : Int) := by rw [List.length_append, List.length_singleton]; omega
    rw [beguinagelaw12_PoolMore.l1, if_neg (by omega), f1, Option.bind_some, if_pos c1, Option.bind_some, ← hH, f2, Option.bind_some, rngF_length, if_pos m1.out, rngF_length, if_pos m2.out]
    by_cases hz : 0 < K0 - (A + j)
    · have c4 : (((K0 - (A + j) : Nat) : Int)) > 0 := by omega
      have hrd : rd (rngF (A + j) (K0 - (A + j))) 0 = ((A + j : Nat) : Int) := by
        obtain ⟨q, hq⟩ : ∃ q, K0 - (A + j) = q + 1 := ⟨K0 - (A + j) - 1, by omega⟩
        rw [hq]; rfl
      rw [if_pos c4, if_pos c4, if_pos hrd, if_pos c2, if_pos c3, Int.toNat_natCast, htk, f1, Option.bind_some, if_pos (by rw [rngF_length]), hw.out]
      exact hK k hk2
    · rw [if_neg (by omega), if_pos c2, if_pos c3, Int.toNat_natCast, htk, f1, Option.bind_some, if_pos (by rw [rngF_length]), hw.out]
      exact hK k hk2
  | succ d ih =>
    intro j hj
    obtain ⟨K, hK⟩ := ih (j + 1) (by omega)
    refine ⟨K + 1, fun k hk => ?_⟩
    obtain ⟨k, rfl⟩ : ∃ m, k = m + 1 := ⟨k - 1, by omega⟩
    have hk2 : K ≤ k := by omega
    have hw : Aside0 (wrap64 ((j : Int) + 1) = ((j + 1 : Nat) : Int)) := Aside0.mk (by rw [w64 (by omega) (by omega)]; rfl)
    have hw2 : Aside0 (wrap64 (((A + j : Nat) : Int) + 1) = ((A + (j + 1) : Nat) : Int)) := Aside0.mk (by rw [w64 (by omega) (by omega)]; rfl)
    rw [beguinagelaw12_PoolMore.l1, if_pos (by omega), if_pos (by rw [rngF_length]; omega), hw.out, hw2.out, ← rngF_succ]
    exact hK k hk2

theorem outer (l : List Int) (K0 : Nat) (hK0 : K0 ≤ 150) (d : Nat) : ∀ (i A : Nat) (hs : List S36), i + d = 10 → A ≤ 11 * i → hs.length = i → segsOf hs = rngF 0 A →
    ∃ K, ∀ k, K ≤ k → beguinagelaw12_PoolMore.l0 k l (K0 : Int) hs (A : Int) (i : Int) = some true := by
  induction d with
  | zero =>
    intro i A hs hi hA hl hsg
    obtain ⟨K, hK⟩ := fin l K0 hs A i
    refine ⟨K + 1, fun k hk => ?_⟩
    obtain ⟨k, rfl⟩ : ∃ m, k = m + 1 := ⟨k - 1, by omega⟩
    rw [beguinagelaw12_PoolMore.l0, decide_eq_false (by omega)]
    split <;> exact hK k (by omega)
  | succ d ih =>
    intro i A hs hi hA hl hsg
    by_cases hlt : (i : Int) < (l.length : Int)
    · have v0 := Int.emod_nonneg (rd l i) (show (12 : Int) ≠ 0 by omega)
      have v1 := Int.emod_lt_of_pos (rd l i) (show (0 : Int) < 12 by omega)
      obtain ⟨n, hn⟩ := Int.eq_ofNat_of_zero_le v0
      have hpl : beguinagelaw00_Place.f (rd l (i : Int)) 12 = some (n : Int) := by rw [p_place _ (by omega) (by omega), hn]
      obtain ⟨K, hK⟩ := inner l K0 hK0 hs A i n hA (by omega) (by omega) hl hsg (fun h hf => ih (i + 1) (A + n) (hs ++ [h]) (by omega) (by omega) (by rw [List.length_append, List.length_singleton, hl]) (by
        rw [segs_snoc, hsg, hf]
        have := rngF_append 0 A n
        rwa [Nat.zero_add] at this)) n 0 (by omega)
      refine ⟨K + 2, fun k hk => ?_⟩
      obtain ⟨k, rfl⟩ : ∃ m, k = m + 1 + 1 := ⟨k - 2, by omega⟩
      have hk2 : K ≤ k := by omega
      have c1 : (i : Int) < 10 := by omega
      have c2 : 0 ≤ (i : Int) := by omega
      rw [beguinagelaw12_PoolMore.l0, if_pos hlt, decide_eq_true c1, beguinagelaw12_PoolMore.j1, if_pos rfl, if_pos c2, if_pos hlt, hpl, Option.bind_some]
      exact hK k hk2
    · obtain ⟨K, hK⟩ := fin l K0 hs A i
      refine ⟨K + 1, fun k hk => ?_⟩
      obtain ⟨k, rfl⟩ : ∃ m, k = m + 1 := ⟨k - 1, by omega⟩
      rw [beguinagelaw12_PoolMore.l0, if_neg hlt]
      exact hK k (by omega)
end Pm

theorem PoolMore : beguinagelaw12_PoolMore.Pure := by
  intro a0 l _ _ _ _
  have v0 := Int.emod_nonneg a0 (show (150 : Int) ≠ 0 by omega)
  have v1 := Int.emod_lt_of_pos a0 (show (0 : Int) < 150 by omega)
  obtain ⟨n, hn⟩ := Int.eq_ofNat_of_zero_le v0
  obtain ⟨K, hK⟩ := Pm.outer l n (by omega) 10 0 0 [] (by omega) (by omega) rfl rfl
  refine ⟨K, ?_⟩
  unfold beguinagelaw12_PoolMore.f
  rw [p_place _ (by omega) (by omega), hn, Option.bind_some]
  exact hK K (Nat.le_refl _)
end Go.Proofs.Ytkdjjkcoonlddaa.Pure
