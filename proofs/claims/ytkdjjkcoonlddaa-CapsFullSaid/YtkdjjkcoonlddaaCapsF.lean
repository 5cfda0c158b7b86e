/- Plain lemmas for CapsFull: 64 handles, closed and opened one by one. -/
import Derived.Test.YtkdjjkcoonlddaaCapsW
namespace Go.Proofs.Ytkdjjkcoonlddaa.Caps
open Go.RowKit Go.Maps
open Go.Proofs.Ytkdjjkcoonlddaa.Aid
set_option linter.unusedVariables false
set_option linter.unusedSimpArgs false

/-- The handles that i calls have given. -/
def hsL (F : Int) (i : Nat) : List Int := (List.range i).map fun j : Nat => F + ((j : Int) + 1)
def fsL (F : Int) (i : Nat) : List H3 := (List.range i).map fun j : Nat => (F + ((j : Int) + 1), 1 + (j : Int) % 255, 1 + (j : Int) % 7)
theorem hsL_len (F : Int) (i : Nat) : (hsL F i).length = i := by unfold hsL; rw [List.length_map, List.length_range]
theorem fsL_len (F : Int) (i : Nat) : (fsL F i).length = i := by unfold fsL; rw [List.length_map, List.length_range]
theorem hsL_succ (F : Int) (i : Nat) : hsL F (i + 1) = hsL F i ++ [F + ((i : Int) + 1)] := by unfold hsL; rw [List.range_succ, List.map_append]; rfl
theorem fsL_succ (F : Int) (i : Nat) : fsL F (i + 1) = fsL F i ++ [(F + ((i : Int) + 1), 1 + (i : Int) % 255, 1 + (i : Int) % 7)] := by unfold fsL; rw [List.range_succ, List.map_append]; rfl
theorem hsL_at (F : Int) (i j : Nat) (h : j < i) : (hsL F i).getD j 0 = F + ((j : Int) + 1) := by
  unfold hsL
  rw [List.getD_eq_getElem?_getD, List.getElem?_map, List.getElem?_range h]; rfl
theorem fsL_mem {F : Int} {i : Nat} {p : H3} (h : p ∈ fsL F i) : ∃ j, j < i ∧ p.1 = F + ((j : Int) + 1) := by
  unfold fsL at h
  obtain ⟨j, hj, rfl⟩ := List.mem_map.1 h
  exact ⟨j, List.mem_range.1 hj, rfl⟩
theorem fsL_fresh (F : Int) (i : Nat) : lookH (fsL F i) (F + ((i : Int) + 1)) = none := look_none fun p hp => by
  obtain ⟨j, hj, e⟩ := fsL_mem hp
  omega
theorem look_isSome {S : List H3} {p : H3} (h : p ∈ S) : (lookH S p.1).isSome = true := by
  cases hl : lookH S p.1 with
  | none => exact absurd rfl (look_none_inv hl p h)
  | some q => rfl
/-- All listed handles are open, they are 64, the last one has number m. -/
structure Full (F : Int) (m : Nat) (ls : List Int) (S : List H3) : Prop where
  len : ls.length = 64
  nodup : ∀ (i j : Nat) (hi : i < ls.length) (hj : j < ls.length), i ≠ j → ls[i] ≠ ls[j]
  has : ∀ x ∈ ls, (lookH S x).isSome = true
  top : ∀ p ∈ S, p.1 ≤ F + (m : Int)
  bd : ∀ x ∈ ls, F + 1 ≤ x ∧ x ≤ F + (m : Int)
  slen : S.length = 64
theorem full_start (F : Int) : Full F 64 (hsL F 64) (fsL F 64) := by
  refine ⟨hsL_len F 64, ?_, fun x hx => ?_, fun p hp => ?_, fun x hx => ?_, fsL_len F 64⟩
  · intro i j hi hj hne
    have e : ∀ (n : Nat) (hn : n < (hsL F 64).length), (hsL F 64)[n] = F + ((n : Int) + 1) := fun n hn => by
      have h2 := hsL_at F 64 n (by rw [hsL_len] at hn; exact hn)
      rw [List.getD_eq_getElem?_getD, List.getElem?_eq_getElem hn] at h2
      exact h2
    rw [e i hi, e j hj]
    omega
  · unfold hsL at hx
    obtain ⟨j, hj, rfl⟩ := List.mem_map.1 hx
    exact look_isSome (p := (F + ((j : Int) + 1), 1 + (j : Int) % 255, 1 + (j : Int) % 7)) (by unfold fsL; exact List.mem_map.2 ⟨j, hj, rfl⟩)
  · obtain ⟨j, hj, e⟩ := fsL_mem hp
    omega
  · unfold hsL at hx
    obtain ⟨j, hj, rfl⟩ := List.mem_map.1 hx
    have := List.mem_range.1 hj
    constructor <;> omega
theorem full_fresh {F : Int} {m : Nat} {ls : List Int} {S : List H3} (h : Full F m ls S) (x : Int) : lookH (without S x) (F + ((m : Int) + 1)) = none := look_none fun p hp => by
  unfold without at hp
  have := h.top p (List.mem_filter.1 hp).1
  omega
theorem full_step {F : Int} {m : Nat} {ls : List Int} {S : List H3} (h : Full F m ls S) (hn : (S.map (·.1)).Nodup) (k : Nat) (hk : k < ls.length) (n r : Int) :
    Full F (m + 1) (ls.set k (F + ((m : Int) + 1))) (without S ls[k] ++ [(F + ((m : Int) + 1), n, r)]) := by
  have hx := h.has ls[k] (List.getElem_mem hk)
  have hfr := full_fresh h ls[k]
  have hmem : ∀ y ∈ ls.set k (F + ((m : Int) + 1)), y = F + ((m : Int) + 1) ∨ (y ∈ ls ∧ y ≠ ls[k]) := by
    intro y hy
    obtain ⟨i, hi, rfl⟩ := List.getElem_of_mem hy
    rw [List.getElem_set]
    by_cases e : k = i
    · left; rw [if_pos e]
    · right
      rw [if_neg e]
      rw [List.length_set] at hi
      refine ⟨List.getElem_mem hi, fun e2 => e ?_⟩
      by_cases e3 : i = k
      · exact e3.symm
      · exact absurd e2 (h.nodup i k hi hk e3)
  refine ⟨by rw [List.length_set]; exact h.len, ?_, fun y hy => ?_, fun p hp => ?_, fun y hy => ?_, ?_⟩
  · intro i j hi hj hne
    rw [List.length_set] at hi hj
    rw [List.getElem_set, List.getElem_set]
    have b1 := (h.bd ls[i] (List.getElem_mem hi)).2
    have b2 := (h.bd ls[j] (List.getElem_mem hj)).2
    by_cases e1 : k = i
    · rw [if_pos e1, if_neg (by omega)]; omega
    · rw [if_neg e1]
      by_cases e2 : k = j
      · rw [if_pos e2]; omega
      · rw [if_neg e2]; exact h.nodup i j hi hj hne
  · rw [look_append _ _ _ hfr]
    rcases hmem y hy with e | ⟨h1, h2⟩
    · subst e; rw [if_pos rfl]; rfl
    · have hb := h.bd y h1
      rw [if_neg (by show ¬ F + ((m : Int) + 1) = y; omega), look_without, if_neg (fun e => h2 e.symm)]
      exact h.has y h1
  · rcases List.mem_append.1 hp with h1 | h1
    · unfold without at h1
      have := h.top p (List.mem_filter.1 h1).1
      omega
    · simp only [List.mem_singleton] at h1
      subst h1
      show F + ((m : Int) + 1) ≤ F + ((m + 1 : Nat) : Int)
      omega
  · rcases hmem y hy with e | ⟨h1, h2⟩
    · subst e; constructor <;> omega
    · have hb := h.bd y h1
      constructor <;> omega
  · have h1 := without_len ls[k] hn hx
    rw [List.length_append, List.length_singleton]
    have h2 := h.slen
    omega
end Go.Proofs.Ytkdjjkcoonlddaa.Caps
