/- Plain lemmas on a map in which the nodes 1 .. j-1 stand at the sectors 49 .. 47+j. -/
import Derived.Test.YtbdghlneiblkcaaImapW
namespace Go.Proofs.Ytbdghlneiblkcaa.Imap
open Go.RowKit
set_option linter.unusedVariables false
set_option linter.unusedSimpArgs false

def Fj (j : Nat) : List Int := (List.range 256).map fun x => if 1 ≤ x ∧ x < j then ((48 + x : Nat) : Int) else 0
theorem Fj_len (j : Nat) : (Fj j).length = 256 := by unfold Fj; rw [List.length_map, List.length_range]
theorem Fj_at (j n : Nat) (hn : n < 256) : (Fj j).getD n 0 = if 1 ≤ n ∧ n < j then ((48 + n : Nat) : Int) else 0 := by
  unfold Fj
  rw [List.getD_eq_getElem?_getD, List.getElem?_map, List.getElem?_range hn]
  rfl
theorem Fj_one : Fj 1 = Z256 := by decide +kernel
theorem ext256 {L M : List Int} (hL : L.length = 256) (hM : M.length = 256) (h : ∀ n, n < 256 → L.getD n 0 = M.getD n 0) : L = M := by
  apply List.ext_getElem (by rw [hL, hM])
  intro n h1 h2
  have := h n (by omega)
  rw [List.getD_eq_getElem?_getD, List.getD_eq_getElem?_getD, List.getElem?_eq_getElem h1, List.getElem?_eq_getElem h2] at this
  exact this
theorem set_at (L : List Int) (x n : Nat) (v : Int) (hL : L.length = 256) (hn : n < 256) : (L.set x v).getD n 0 = if x = n then v else L.getD n 0 := by
  rw [List.getD_eq_getElem?_getD, List.getElem?_set, List.getD_eq_getElem?_getD]
  by_cases e : x = n
  · subst e; rw [if_pos rfl, if_pos rfl, if_pos (by omega)]; rfl
  · rw [if_neg e, if_neg e]
theorem Fj_set (j : Nat) (h1 : 1 ≤ j) (h2 : j ≤ 255) : (Fj j).set j ((48 : Int) + (j : Int)) = Fj (j + 1) := by
  apply ext256 (by rw [List.length_set, Fj_len]) (Fj_len _)
  intro n hn
  rw [set_at _ _ _ _ (Fj_len j) hn, Fj_at _ _ hn, Fj_at _ _ hn]
  by_cases e : j = n
  · rw [if_pos e, if_pos (by omega)]; omega
  · rw [if_neg e]
    by_cases h : 1 ≤ n ∧ n < j
    · rw [if_pos h, if_pos (by omega)]
    · rw [if_neg h, if_neg (by omega)]
theorem Fj_first (j : Nat) (h1 : 1 ≤ j) (h2 : j ≤ 256) : FirstIs (Fj j) (j % 256) := by
  by_cases h : j ≤ 255
  · rw [Nat.mod_eq_of_lt (by omega)]
    refine Or.inl ⟨h1, h, ?_, fun i i1 i2 => ?_⟩
    · rw [Fj_at _ _ (by omega), if_neg (by omega)]
    · rw [Fj_at _ _ (by omega), if_pos (by omega)]; omega
  · have : j = 256 := by omega
    subst this
    refine Or.inr ⟨rfl, fun i i1 i2 => ?_⟩
    rw [Fj_at _ _ (by omega), if_pos (by omega)]; omega
theorem Fj_gone (j x : Nat) (h1 : 1 ≤ x) (h2 : x < j) (h3 : j ≤ 256) : FirstIs ((Fj j).set x 0) x := by
  refine Or.inl ⟨h1, by omega, ?_, fun i i1 i2 => ?_⟩
  · rw [set_at _ _ _ _ (Fj_len j) (by omega), if_pos rfl]
  · rw [set_at _ _ _ _ (Fj_len j) (by omega), if_neg (by omega), Fj_at _ _ (by omega), if_pos (by omega)]; omega
theorem Fj_zero (j x : Nat) (h1 : x < 256) : ((Fj j).set x 0).getD x 0 = 0 := by rw [set_at _ _ _ _ (Fj_len j) h1, if_pos rfl]
theorem Fj_again (j x : Nat) (h1 : 1 ≤ x) (h2 : x < j) (h3 : j ≤ 256) : ((Fj j).set x 0).set x ((48 : Int) + (x : Int)) = Fj j := by
  apply ext256 (by rw [List.length_set, List.length_set, Fj_len]) (Fj_len _)
  intro n hn
  rw [List.set_set, set_at _ _ _ _ (Fj_len j) hn, Fj_at _ _ hn]
  by_cases e : x = n
  · rw [if_pos e, if_pos (by omega)]; omega
  · rw [if_neg e]
theorem Fj_back (j x : Nat) (h1 : 1 ≤ x) (h2 : x < j) (h3 : j ≤ 256) : (Fj j).getD x 0 = (48 : Int) + (x : Int) := by
  rw [Fj_at _ _ (by omega), if_pos (by omega)]; omega
theorem Fj_nodes (j : Nat) (h1 : 1 ≤ j) (h2 : j ≤ 256) : nodesTo (Fj j) 256 = (List.range (j - 1)).map fun i : Nat => (i : Int) + 1 := by
  have key : ∀ k, k ≤ 256 → nodesTo (Fj j) k = (List.range (min k j - 1)).map fun i : Nat => (i : Int) + 1 := by
    intro k
    induction k with
    | zero => intro _; rfl
    | succ k ih =>
      intro hk
      rw [nodesTo_succ, ih (by omega), Fj_at _ _ (by omega)]
      by_cases h : 1 ≤ k ∧ k < j
      · rw [if_pos h, if_pos (by omega), show min (k + 1) j - 1 = (min k j - 1) + 1 by omega, List.range_succ, List.map_append]
        congr 1
        simp only [List.map_cons, List.map_nil]
        congr 1
        omega
      · rw [if_neg h, if_neg (by omega), List.append_nil, show min (k + 1) j - 1 = min k j - 1 by omega]
  rw [key 256 (Nat.le_refl _), show min 256 j - 1 = j - 1 by omega]
end Go.Proofs.Ytbdghlneiblkcaa.Imap
