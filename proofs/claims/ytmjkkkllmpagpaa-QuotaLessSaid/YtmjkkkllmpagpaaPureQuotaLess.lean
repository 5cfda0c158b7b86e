/- QuotaLess, the plain law: whatever the bounds, the state, the clock: to have less, or as much, may be. Conditions: the numbers are int's. -/
import Derived.Test.YtmjkkkllmpagpaaQuotaPlain
import Derived.Test.YtmjkkkllmpagpaaPQuotax13
namespace Go.Proofs.Ytmjkkkllmpagpaa.Pure
open Go.RowKit Go.Proofs.Ytmjkkkllmpagpaa.PQuota Go.Proofs.YtmjkkkllmpagpaaW.PrintWords Go.Proofs.YtmjkkkllmpagpaaW.PrintLast
open Go.Proofs.Ytmjkkkllmpagpaa.Aid
set_option linter.unusedVariables false
set_option linter.unusedSimpArgs false

theorem QuotaLess (l0 l1 l2 l3 l4 l5 l6 s0 s1 s2 s3 a2 a3 a4 : Int) (h0 : (Lit.int .i64 l0).wf = true) (h1 : (Lit.int .i64 l1).wf = true) (h2 : (Lit.int .i64 l2).wf = true) (h3 : (Lit.int .i64 l3).wf = true)
    (h4 : (Lit.int .i64 l4).wf = true) (h5 : (Lit.int .i64 l5).wf = true) (h6 : (Lit.int .i64 l6).wf = true) (g0 : (Lit.int .i64 s0).wf = true) (g1 : (Lit.int .i64 s1).wf = true) (g2 : (Lit.int .i64 s2).wf = true) (g3 : (Lit.int .i64 s3).wf = true)
    (k2 : (Lit.int .i64 a2).wf = true) (k3 : (Lit.int .i64 a3).wf = true) (k4 : (Lit.int .i64 a4).wf = true) :
    beguinagelaw22_QuotaLess.f l0 l1 l2 l3 l4 l5 l6 s0 s1 s2 s3 a2 a3 a4 = some true := by
  unfold beguinagelaw22_QuotaLess.f
  rw [q_place a3 (by omega) (by omega), q_place a4 (by omega) (by omega), q_place s0 (by omega) (by omega), q_place s1 (by omega) (by omega)]
  have b0 := Int.emod_nonneg a3 (show (1099511627776 : Int) ≠ 0 by omega)
  have b1 := Int.emod_lt_of_pos a3 (show (0 : Int) < 1099511627776 by omega)
  have b2 := Int.emod_nonneg a4 (show (1099511627776 : Int) ≠ 0 by omega)
  have b3 := Int.emod_lt_of_pos a4 (show (0 : Int) < 1099511627776 by omega)
  have b4 := Int.emod_nonneg s0 (show (1073741824 : Int) ≠ 0 by omega)
  have b5 := Int.emod_lt_of_pos s0 (show (0 : Int) < 1073741824 by omega)
  have b6 := Int.emod_nonneg s1 (show (1073741824 : Int) ≠ 0 by omega)
  have b7 := Int.emod_lt_of_pos s1 (show (0 : Int) < 1073741824 by omega)
  generalize a3 % 1099511627776 = b at *
  generalize a4 % 1099511627776 = n at *
  generalize s0 % 1073741824 = x at *
  generalize s1 % 1073741824 = y at *
  simp only [Option.bind_some]
  rw [w64 (x := b + x) (by omega) (by omega), w64 (x := n + y) (by omega) (by omega)]
  unfold quota_Next.f quota_May.f
  simp only [Option.bind_some]
  rw [may_less (by omega), may_less (by omega), if_pos (show (true && true) = true from rfl)]
  simp only [if_true]
  have e1 := since_zero (c := cutF a2 1099511627777) (soft := l2) (s := cutF s2 1099511627777) (now := b) (cutF_bd a2).1
  have e2 := since_zero (c := cutF a2 1099511627777) (soft := l4) (s := cutF s3 1099511627777) (now := n) (cutF_bd a2).1
  rw [if_pos, if_pos, awake_true]
  · rfl
  · rw [beq_iff_eq, Bool.eq_iff_iff, beq_iff_eq, decide_eq_true_eq]; exact e2
  · rw [beq_iff_eq, Bool.eq_iff_iff, beq_iff_eq, decide_eq_true_eq]; exact e1
end Go.Proofs.Ytmjkkkllmpagpaa.Pure
