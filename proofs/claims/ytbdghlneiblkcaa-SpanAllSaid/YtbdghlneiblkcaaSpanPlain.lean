/- Plain lemmas on span's pure functions. -/
import Derived.Test.YtbdghlneiblkcaaSpanInds
import Derived.Test.YtbdghlneiblkcaaPSpanx2
import Derived.Test.YtbdghlneiblkcaaSized
namespace Go.Proofs.Ytbdghlneiblkcaa.PSpan
open Go.RowKit Go.Proofs.YtbdghlneiblkcaaW.PrintWords Go.Proofs.YtbdghlneiblkcaaW.PrintLast Go.Proofs.YtbdghlneiblkcaaW.PrintMore
open Go.Proofs.Ytbdghlneiblkcaa.Aid
set_option linter.unusedVariables false
set_option linter.unusedSimpArgs false

theorem s_awake : ∃ K, ∀ k, K ≤ k → beguinagelaw10_awake.f k = some true := by
  have h : beguinagelaw10_awake.f 3 = some true := by decide +kernel
  exact ⟨3, fun k hk => at_rounds (fun k => beguinagelaw10_awake.mono k) hk h⟩
theorem kids_append (a b : List Int) : kidsL (a ++ b) = kidsL a ++ kidsL b := by
  unfold kidsL; rw [List.filter_append, List.map_append]
theorem contains_append (a b : List Int) (c : Int) : (a ++ b).contains c = (a.contains c || b.contains c) := by
  rw [Bool.eq_iff_iff, List.contains_iff_mem, Bool.or_eq_true, List.contains_iff_mem, List.contains_iff_mem, List.mem_append]
theorem b2n_or (a b : Bool) : b2n a ≤ b2n (a || b) ∧ b2n b ≤ b2n (a || b) ∧ b2n (a || b) ≤ b2n a + b2n b := by cases a <;> cases b <;> decide
theorem inds_append (a b : List Int) : indsF a ≤ indsF (a ++ b) ∧ indsF b ≤ indsF (a ++ b) ∧ indsF (a ++ b) ≤ indsF a + indsF b := by
  unfold indsF cnt8
  rw [kids_append, List.any_append, List.any_append]
  simp only [contains_append]
  have k := fun c => b2n_or ((kidsL a).contains c) ((kidsL b).contains c)
  have k0 := k 0; have k1 := k 1; have k2 := k 2; have k3 := k 3; have k4 := k 4; have k5 := k 5; have k6 := k 6; have k7 := k 7
  have s := b2n_or (a.any isS) (b.any isS)
  have d := b2n_or (a.any isD) (b.any isD)
  omega
theorem inds_twice (a : List Int) : indsF (a ++ a) = indsF a := by
  unfold indsF
  rw [kids_append, List.any_append, List.any_append, Bool.or_self, Bool.or_self]
  simp only [contains_append, Bool.or_self]
theorem inds_le (a : List Int) : indsF a ≤ 10 := by
  unfold indsF
  have h := cnt8_le (fun c => (kidsL a).contains c)
  have s := b2n_le (a.any isS)
  have d := b2n_le (a.any isD)
  omega
end Go.Proofs.Ytbdghlneiblkcaa.PSpan
