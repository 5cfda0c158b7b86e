/- SpanNeeds, the plain law. -/
import Derived.Test.YtbdghlneiblkcaaPSpanx3
import Derived.Test.YtbdghlneiblkcaaSpanPlain
namespace Go.Proofs.Ytbdghlneiblkcaa.Pure
open Go.RowKit Go.Proofs.Ytbdghlneiblkcaa.PSpan Go.Proofs.YtbdghlneiblkcaaW.PrintWords Go.Proofs.YtbdghlneiblkcaaW.PrintLast Go.Proofs.YtbdghlneiblkcaaW.PrintMore
open Go.Proofs.Ytbdghlneiblkcaa.Aid
set_option linter.unusedVariables false
set_option linter.unusedSimpArgs false

theorem needs_true (a b : List Int) : ∃ K, ∀ k, K ≤ k → beguinagelaw10_SpanNeeds.j0 k a b true = some true := by
  obtain ⟨K, hK⟩ := s_awake
  refine ⟨K + 1, fun k hk => ?_⟩
  obtain ⟨k, rfl⟩ : ∃ m, k = m + 1 := ⟨k - 1, by omega⟩
  rw [beguinagelaw10_SpanNeeds.j0, if_pos rfl, hK k (by omega), Option.bind_some]
theorem needs_false (a b : List Int) (ha : a.length ≤ 200) (hb : b.length ≤ 200) : ∃ K, ∀ k, K ≤ k → beguinagelaw10_SpanNeeds.j0 k a b false = some true := by
  obtain ⟨K, hK⟩ := s_awake
  refine ⟨K + 1, fun k hk => ?_⟩
  obtain ⟨k, rfl⟩ : ∃ m, k = m + 1 := ⟨k - 1, by omega⟩
  obtain ⟨i1, i2, i3⟩ := inds_append a b
  have i4 := inds_le (a ++ b)
  have i5 := inds_le a
  have i6 := inds_le b
  have f1 : ∀ l, span_Inds.f l = some (indsF l : Int) := fun l => rfl
  have c1 : ([] : List Int).length + a.length < 17592186044416 := by simp only [List.length_nil]; omega
  have c2 : a.length + b.length < 17592186044416 := by omega
  have c3 : a.length + a.length < 17592186044416 := by omega
  have d1 : (indsF a : Int) ≥ 0 := by omega
  have d2 : (indsF (a ++ b) : Int) ≥ mx (indsF a : Int) (indsF b : Int) := by unfold mx; omega
  have d3 : Aside0 ((indsF (a ++ b) : Int) ≤ wrap64 ((indsF a : Int) + (indsF b : Int))) := Aside0.mk (by rw [w64 (by omega) (by omega)]; omega)
  have d4 : (indsF (a ++ b) : Int) ≤ 10 := by omega
  have d5 : (indsF (a ++ a) : Int) = (indsF a : Int) := by rw [inds_twice]
  rw [beguinagelaw10_SpanNeeds.j0, if_neg Bool.false_ne_true, f1, Option.bind_some, f1, Option.bind_some, if_pos c1, Option.bind_some, List.nil_append, if_pos c2, f1, Option.bind_some, if_pos d1, if_pos d2, if_pos d3.out, if_pos d4, Option.bind_some, if_pos c3, f1, Option.bind_some, if_pos d5, hK k (by omega), Option.bind_some]

theorem SpanNeeds : beguinagelaw10_SpanNeeds.Pure := by
  intro a b _ _ _ _ _ _
  by_cases h1 : (a.length : Int) > 200
  · obtain ⟨K, hK⟩ := needs_true a b
    refine ⟨K, ?_⟩
    unfold beguinagelaw10_SpanNeeds.f
    rw [if_pos h1]
    exact hK K (Nat.le_refl _)
  · by_cases h2 : (b.length : Int) > 200
    · obtain ⟨K, hK⟩ := needs_true a b
      refine ⟨K, ?_⟩
      unfold beguinagelaw10_SpanNeeds.f
      rw [if_neg h1, decide_eq_true h2]
      exact hK K (Nat.le_refl _)
    · obtain ⟨K, hK⟩ := needs_false a b (by omega) (by omega)
      refine ⟨K, ?_⟩
      unfold beguinagelaw10_SpanNeeds.f
      rw [if_neg h1, decide_eq_false h2]
      exact hK K (Nat.le_refl _)
end Go.Proofs.Ytbdghlneiblkcaa.Pure
