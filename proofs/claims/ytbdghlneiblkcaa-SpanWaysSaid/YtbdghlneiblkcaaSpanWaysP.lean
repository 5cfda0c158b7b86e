/- Plain lemmas for SpanWays. -/
import Derived.Test.YtbdghlneiblkcaaSpanPtr
import Derived.Test.YtbdghlneiblkcaaImapW
namespace Go.Proofs.Ytbdghlneiblkcaa.Pure
open Go.RowKit Go.Proofs.Ytbdghlneiblkcaa.PSpan Go.Proofs.YtbdghlneiblkcaaW.PrintWords Go.Proofs.YtbdghlneiblkcaaW.PrintLast Go.Proofs.YtbdghlneiblkcaaW.PrintMore
open Go.Proofs.Ytbdghlneiblkcaa.Aid
open Go.Proofs.Ytbdghlneiblkcaa.Imap (place_calls grown_drewN)
set_option linter.unusedVariables false
set_option linter.unusedSimpArgs false

theorem kinds (x : Int) (h0 : 0 ≤ x) (h1 : x < 588) : (kindF x = 0 ∧ kidF x = 0 ∧ 0 ≤ atF x ∧ atF x < 12) ∨ (kindF x = 1 ∧ kidF x = 0 ∧ 0 ≤ atF x ∧ atF x < 64) ∨ (kindF x = 2 ∧ 0 ≤ kidF x ∧ kidF x < 8 ∧ 0 ≤ atF x ∧ atF x < 64) := by
  obtain ⟨h3, h4, h5, h6, h7, h8, h9, h10⟩ := way_bd x h0 h1
  have h : kindF x = 0 ∨ kindF x = 1 ∨ kindF x = 2 := by omega
  rcases h with h | h | h
  · exact Or.inl ⟨h, h10 (by omega), h3, h9 h⟩
  · exact Or.inr (Or.inl ⟨h, h10 (by omega), h3, h4⟩)
  · exact Or.inr (Or.inr ⟨h, h5, h6, h3, h4⟩)
theorem unlike (x y : Int) (h0 : 0 ≤ x) (h1 : x < 588) (h2 : 0 ≤ y) (h3 : y < 588) : (x = y ∧ (x == y) = true ∧ kindF y = kindF x ∧ kidF y = kidF x ∧ atF y = atF x) ∨
    ((x == y) = false ∧ (kindF x == kindF y) = false) ∨ ((x == y) = false ∧ kindF y = kindF x ∧ (kidF x == kidF y) = false) ∨ ((x == y) = false ∧ kindF y = kindF x ∧ kidF y = kidF x ∧ (atF x == atF y) = false) := by
  by_cases e : x = y
  · subst e; exact Or.inl ⟨rfl, by simp, rfl, rfl, rfl⟩
  · have e0 : (x == y) = false := beq_eq_false_iff_ne.2 e
    by_cases e1 : kindF x = kindF y
    · by_cases e2 : kidF x = kidF y
      · by_cases e3 : atF x = atF y
        · exact absurd (way_inj x y h0 h1 h2 h3 e1 e2 e3) e
        · exact Or.inr (Or.inr (Or.inr ⟨e0, e1.symm, e2.symm, beq_eq_false_iff_ne.2 e3⟩))
      · exact Or.inr (Or.inr (Or.inl ⟨e0, e1.symm, beq_eq_false_iff_ne.2 e2⟩))
    · exact Or.inr (Or.inl ⟨e0, beq_eq_false_iff_ne.2 e1⟩)
/-- The numbers that are put. -/
def buildM (l : List Int) (k : Nat) : List Int := (List.range k).map fun i => if i < l.length then l.getD i 0 % 65536 else (i : Int)
theorem build_succ (l : List Int) (k : Nat) : buildM l (k + 1) = buildM l k ++ [if k < l.length then l.getD k 0 % 65536 else (k : Int)] := by
  unfold buildM; rw [List.range_succ, List.map_append]; rfl
theorem build_len (l : List Int) (k : Nat) : (buildM l k).length = k := by unfold buildM; rw [List.length_map, List.length_range]
theorem build_bd (l : List Int) (k : Nat) (hk : k ≤ 64) : ∀ x ∈ buildM l k, 0 ≤ x ∧ x < 65536 := by
  intro x hx
  unfold buildM at hx
  obtain ⟨i, hi, rfl⟩ := List.mem_map.1 hx
  have := List.mem_range.1 hi
  split <;> omega

end Go.Proofs.Ytbdghlneiblkcaa.Pure
