/- QuotaAll, the plain law: at any bounds, state, clock and numbers the program and the reference answer alike. Conditions: the numbers are int's. -/
import Derived.Test.YtmjkkkllmpagpaaQuotaPlain
import Derived.Test.YtmjkkkllmpagpaaPQuotax9
namespace Go.Proofs.Ytmjkkkllmpagpaa.Pure
open Go.RowKit Go.Proofs.Ytmjkkkllmpagpaa.PQuota Go.Proofs.YtmjkkkllmpagpaaW.PrintWords Go.Proofs.YtmjkkkllmpagpaaW.PrintLast
open Go.Proofs.Ytmjkkkllmpagpaa.Aid
set_option linter.unusedVariables false
set_option linter.unusedSimpArgs false

theorem QuotaAll (l0 l1 l2 l3 l4 l5 l6 s0 s1 s2 s3 a2 a3 a4 : Int) (h0 : (Lit.int .i64 l0).wf = true) (h1 : (Lit.int .i64 l1).wf = true) (h2 : (Lit.int .i64 l2).wf = true) (h3 : (Lit.int .i64 l3).wf = true)
    (h4 : (Lit.int .i64 l4).wf = true) (h5 : (Lit.int .i64 l5).wf = true) (h6 : (Lit.int .i64 l6).wf = true) (g0 : (Lit.int .i64 s0).wf = true) (g1 : (Lit.int .i64 s1).wf = true) (g2 : (Lit.int .i64 s2).wf = true) (g3 : (Lit.int .i64 s3).wf = true)
    (k2 : (Lit.int .i64 a2).wf = true) (k3 : (Lit.int .i64 a3).wf = true) (k4 : (Lit.int .i64 a4).wf = true) :
    beguinagelaw22_QuotaAll.f l0 l1 l2 l3 l4 l5 l6 s0 s1 s2 s3 a2 a3 a4 = some true := by
  obtain ⟨c0, c1⟩ := cutF_bd a2
  obtain ⟨d0, d1⟩ := cutF_bd s2
  obtain ⟨e0, e1⟩ := cutF_bd s3
  have n1 : beguinageref22_Next.f l0 l1 l2 l3 l4 l5 l6 s0 s1 s2 s3 a2 a3 a4 = quota_Next.f l0 l1 l2 l3 l4 l5 l6 s0 s1 s2 s3 a2 a3 a4 := by
    unfold beguinageref22_Next.f quota_Next.f
    simp only [rcut, Option.bind_some]
    rw [rsince c0, rsince c0]
    rfl
  have m1 : beguinageref22_May.f l0 l1 l2 l3 l4 l5 l6 s0 s1 s2 s3 a2 a3 a4 = quota_May.f l0 l1 l2 l3 l4 l5 l6 s0 s1 s2 s3 a2 a3 a4 := by
    unfold beguinageref22_May.f quota_May.f
    simp only [rcut, Option.bind_some]
    rw [rone d0 d1 c0 c1]
    simp only [Option.bind_some]
    cases sideMay l5 (cutF a2 1099511627777) l1 l2 s0 (cutF s2 1099511627777) a3 with
    | true => rw [if_pos rfl, rone e0 e1 c0 c1]; rfl
    | false => rw [if_neg (by simp)]; rfl
  unfold beguinagelaw22_QuotaAll.f
  rw [n1, m1]
  unfold quota_Next.f quota_May.f
  simp only [Option.bind_some]
  rw [if_pos (beq_self_eq_true _)]
  simp only [if_true, awake_true]
  rfl
end Go.Proofs.Ytmjkkkllmpagpaa.Pure
