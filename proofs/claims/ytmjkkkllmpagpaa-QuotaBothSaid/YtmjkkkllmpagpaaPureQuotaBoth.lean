/- QuotaBoth answers true for all numbers: blocks and nodes by themselves: what is too much of the one is not healed by the other. Conditions: none. -/
import Derived.Test.YtmjkkkllmpagpaaQuotaBothA
import Derived.Test.YtmjkkkllmpagpaaQuotaBothB
namespace Go.Proofs.Ytmjkkkllmpagpaa.Pure
open Go.RowKit Go.Proofs.YtmjkkkllmpagpaaW.PrintWords Go.Proofs.YtmjkkkllmpagpaaW.PrintLast Go.Proofs.YtmjkkkllmpagpaaW.PrintMore
open Go.Proofs.Ytmjkkkllmpagpaa.Aid Go.Proofs.Ytmjkkkllmpagpaa.PQuota
theorem QuotaBoth_walk (a0 a1 a2 : Int) (w : World) (w0 : (Lit.int .i64 a0).wf = true) (w1 : (Lit.int .i64 a1).wf = true) (w2 : (Lit.int .i64 a2).wf = true) :
    Calls Try.prog 12 #[.int .i64 a0, .int .i64 a1, .int .i64 a2] w fun e w' => e = .returned (.bool true) ∧ Below w.heap.size w w' := by
  by_cases h : a1 % 100 ≤ 1 + a0 % 50
  · exact bothA a0 a1 a2 w ⟨h⟩ w0 w1 w2
  · exact bothB a0 a1 a2 w ⟨h⟩ w0 w1 w2
end Go.Proofs.Ytmjkkkllmpagpaa.Pure
