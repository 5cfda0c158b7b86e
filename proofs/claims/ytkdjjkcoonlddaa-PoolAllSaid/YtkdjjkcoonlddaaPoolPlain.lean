/- Plain lemmas on the pool's pure functions. -/
import Derived.Test.YtkdjjkcoonlddaaPoolGiven
import Derived.Test.YtkdjjkcoonlddaaPPoolx3
import Derived.Test.YtkdjjkcoonlddaaPPoolx4
import Derived.Test.YtkdjjkcoonlddaaPPoolx7
import Derived.Test.YtkdjjkcoonlddaaAid
namespace Go.Proofs.Ytkdjjkcoonlddaa.PPool
open Go.RowKit Go.Proofs.YtkdjjkcoonlddaaW.PrintWords Go.Proofs.YtkdjjkcoonlddaaW.PrintLast Go.Proofs.YtkdjjkcoonlddaaW.PrintMore
open Go.Proofs.Ytkdjjkcoonlddaa.Aid
set_option linter.unusedVariables false
set_option linter.unusedSimpArgs false

theorem p_place (a : Int) {n : Int} (h0 : 0 < n) (h1 : n ≤ 9223372036854775807) : beguinagelaw00_Place.f a n = some (a % n) := place a h0 h1
theorem p_awake : beguinagelaw12_awake.f = some true := by decide +kernel
theorem wf_nat {k : Nat} (h : k ≤ 4611686018427387904) : (Lit.int .i64 (k : Int)).wf = true := by
  have h := wrap64_wf (k : Int); rwa [w64 (by omega) (by omega)] at h

/-- The numbers from a on, n of them. -/
def rngF (a n : Nat) : List Int := (List.range' a n).map Int.ofNat
theorem rngF_length (a n : Nat) : (rngF a n).length = n := by unfold rngF; simp
theorem rngF_succ (a n : Nat) : rngF a (n + 1) = rngF a n ++ [((a + n : Nat) : Int)] := by
  unfold rngF
  rw [List.range'_concat, List.map_append]; simp
theorem rngF_append (a m n : Nat) : rngF a m ++ rngF (a + m) n = rngF a (m + n) := by
  unfold rngF
  rw [← List.map_append, List.range'_append_1]
theorem mem_rngF (a n : Nat) (x : Int) : x ∈ rngF a n ↔ (a : Int) ≤ x ∧ x < (a : Int) + n := by
  unfold rngF
  rw [List.mem_map]
  constructor
  · rintro ⟨y, hy, rfl⟩
    rw [List.mem_range'_1] at hy
    show (a : Int) ≤ (y : Int) ∧ (y : Int) < (a : Int) + n
    omega
  · intro h
    refine ⟨x.toNat, ?_, ?_⟩
    · rw [List.mem_range'_1]; omega
    · show ((x.toNat : Nat) : Int) = x
      omega
theorem contains_rng (A : Nat) (k : Nat) : (rngF 0 A).contains (k : Int) = decide (k < A) := by
  rw [Bool.eq_iff_iff, List.contains_iff_mem, mem_rngF, decide_eq_true_iff]; omega

theorem freeTo_rng (l : List S36) (A : Nat) (h : segsOf l = rngF 0 A) (k : Nat) : freeTo l k = rngF A (k - A) := by
  induction k with
  | zero => rw [Nat.zero_sub]; rfl
  | succ k ih =>
    rw [freeTo_succ, ih, h, contains_rng]
    by_cases hk : k < A
    · rw [if_pos (decide_eq_true hk), List.append_nil, show k - A = 0 by omega, show k + 1 - A = 0 by omega]
    · rw [if_neg (by rw [decide_eq_false hk]; decide), show k + 1 - A = (k - A) + 1 by omega, rngF_succ, show A + (k - A) = k by omega]
theorem free_nat {K : Nat} (hK : K ≤ 65536) (l : List S36) : freeOf (K : Int) l = freeTo l K := by
  unfold freeOf
  rw [show (mx 0 (mn (K : Int) 65536)).toNat = K by unfold mx mn; omega]
theorem sane_rng {l : List S36} {A : Nat} (h : segsOf l = rngF 0 A) (hA : A ≤ 1000000) : sane l := by
  refine ⟨by rw [h, rngF_length]; unfold maxLen; omega, fun x hx => ?_⟩
  rw [h, mem_rngF] at hx
  obtain ⟨n, rfl⟩ := Int.eq_ofNat_of_zero_le (show 0 ≤ x by omega)
  exact wf_nat (by omega)
theorem segs_snoc (l : List S36) (h : S36) : segsOf (l ++ [h]) = segsOf l ++ h.f3 := by
  unfold segsOf; rw [List.flatMap_append]; simp
theorem same_self (l : List Int) (hl : l.length ≤ 4611686018427387904) : ∃ K, ∀ k, K ≤ k → beguinagelaw00_SameInts.f k l l = some true := by
  have step : ∀ d i : Nat, i + d = l.length → ∃ K, ∀ k, K ≤ k → beguinagelaw00_SameInts.l0 k l l (i : Int) = some true := by
    intro d
    induction d with
    | zero =>
      intro i hi
      refine ⟨1, fun k hk => ?_⟩
      obtain ⟨k, rfl⟩ : ∃ m, k = m + 1 := ⟨k - 1, by omega⟩
      rw [beguinagelaw00_SameInts.l0, if_neg (by omega)]
    | succ d ih =>
      intro i hi
      obtain ⟨K, hK⟩ := ih (i + 1) (by omega)
      refine ⟨K + 1, fun k hk => ?_⟩
      obtain ⟨k, rfl⟩ : ∃ m, k = m + 1 := ⟨k - 1, by omega⟩
      have hk2 : K ≤ k := by omega
      have c1 : (i : Int) < (l.length : Int) := by omega
      have c2 : 0 ≤ (i : Int) := by omega
      have hw : Aside0 (wrap64 ((i : Int) + 1) = ((i + 1 : Nat) : Int)) := Aside0.mk (by rw [w64 (by omega) (by omega)]; rfl)
      rw [beguinagelaw00_SameInts.l0, if_pos c1, if_pos c2, if_pos c1, if_pos rfl, hw.out]
      exact hK k hk2
  obtain ⟨K, hK⟩ := step l.length 0 (by omega)
  refine ⟨K, fun k hk => ?_⟩
  unfold beguinagelaw00_SameInts.f
  rw [if_pos rfl]
  exact hK k hk
end Go.Proofs.Ytkdjjkcoonlddaa.PPool
