/- SpanWays answers true for all numbers and every list: unlike blocks have unlike ways, each within its bounds; pointers there and back. Conditions: none. -/
import Derived.Test.YtbdghlneiblkcaaSpanWaysA
import Derived.Test.YtbdghlneiblkcaaSpanWaysB
import Derived.Test.YtbdghlneiblkcaaSpanWaysC
namespace Go.Proofs.Ytbdghlneiblkcaa.Pure
open Go.RowKit Go.Proofs.Ytbdghlneiblkcaa.PSpan Go.Proofs.YtbdghlneiblkcaaW.PrintWords Go.Proofs.YtbdghlneiblkcaaW.PrintLast Go.Proofs.YtbdghlneiblkcaaW.PrintMore
open Go.Proofs.Ytbdghlneiblkcaa.Aid
open Go.Proofs.Ytbdghlneiblkcaa.Imap (place_calls grown_drewN)
set_option linter.unusedVariables false
set_option linter.unusedSimpArgs false

theorem SpanWays_walk (a0 a1 : Int) (A2 : Option Addr) (c2 : Nat) (l2 : List Int) (w : World) (hr2 : Kd.C (Kd.int .i64) w A2 l2.length l2) (hc2 : l2.length ≤ c2) (w0 : (Lit.int .i64 a0).wf = true) (w1 : (Lit.int .i64 a1).wf = true) (w2 : l2.length ≤ maxLen ∧ ∀ x_ ∈ l2, (Lit.int .i64 x_).wf = true) :
    Calls Try.prog 6 #[.int .i64 a0, .int .i64 a1, .slice A2 l2.length c2] w fun e w' => e = .returned (.bool true) ∧ Below w.heap.size w w' := by
  have x0 := Int.emod_nonneg a0 (show (588 : Int) ≠ 0 by omega)
  have x1 := Int.emod_lt_of_pos a0 (show (0 : Int) < 588 by omega)
  have y0 := Int.emod_nonneg a1 (show (588 : Int) ≠ 0 by omega)
  have y1 := Int.emod_lt_of_pos a1 (show (0 : Int) < 588 by omega)
  rcases kinds _ x0 x1 with hK | hK | hK <;> rcases unlike _ _ x0 x1 y0 y1 with hU | hU | hU | hU
  · exact ways_00 a0 a1 A2 c2 l2 w hr2 hc2 w0 w1 w2 ⟨hK⟩ ⟨hU⟩
  · exact ways_01 a0 a1 A2 c2 l2 w hr2 hc2 w0 w1 w2 ⟨hK⟩ ⟨hU⟩
  · exact ways_02 a0 a1 A2 c2 l2 w hr2 hc2 w0 w1 w2 ⟨hK⟩ ⟨hU⟩
  · exact ways_03 a0 a1 A2 c2 l2 w hr2 hc2 w0 w1 w2 ⟨hK⟩ ⟨hU⟩
  · exact ways_10 a0 a1 A2 c2 l2 w hr2 hc2 w0 w1 w2 ⟨hK⟩ ⟨hU⟩
  · exact ways_11 a0 a1 A2 c2 l2 w hr2 hc2 w0 w1 w2 ⟨hK⟩ ⟨hU⟩
  · exact ways_12 a0 a1 A2 c2 l2 w hr2 hc2 w0 w1 w2 ⟨hK⟩ ⟨hU⟩
  · exact ways_13 a0 a1 A2 c2 l2 w hr2 hc2 w0 w1 w2 ⟨hK⟩ ⟨hU⟩
  · exact ways_20 a0 a1 A2 c2 l2 w hr2 hc2 w0 w1 w2 ⟨hK⟩ ⟨hU⟩
  · exact ways_21 a0 a1 A2 c2 l2 w hr2 hc2 w0 w1 w2 ⟨hK⟩ ⟨hU⟩
  · exact ways_22 a0 a1 A2 c2 l2 w hr2 hc2 w0 w1 w2 ⟨hK⟩ ⟨hU⟩
  · exact ways_23 a0 a1 A2 c2 l2 w hr2 hc2 w0 w1 w2 ⟨hK⟩ ⟨hU⟩
end Go.Proofs.Ytbdghlneiblkcaa.Pure
