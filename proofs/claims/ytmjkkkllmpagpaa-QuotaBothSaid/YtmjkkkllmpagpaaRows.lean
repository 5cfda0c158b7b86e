/-
  No cell of these rows narrows 'for every input' (looked for: loops, veiled, ifaces, maps, wideKeys, modest, calm, conditions, laid).
  DERIVED. THE GIVEN ROWS OF THIS SEAT. 11 by the template 'for every input the law returns true; each argument reads behind the call as it read before'; 0 by the template 'total and deterministic' (their statements: YtmjkkkllmpagpaaTotals.lean).
  GIVEN WITH THE SEED: the statements are not yours to turn. If you find one false, say at which input.
  Laid BY PROGRAM, IN A SANDBOX (cutbox-rows.mjs): the forced cells as the released guide's own fill.sh prints them over the translation 2e4da1320db9be5b… (all of the seat's roots in one cut). By AI agents, Wed Nov 11 2026. No macro, syntax, notation, axiom, sorry.
-/
import Derived.Test.YtmjkkkllmpagpaaChecked
import GoSem.Claim
import GoSem.ClaimJoined
import GoSem.ClaimMapViews
import Derived.JoinedTies
import Derived.KernelRfl
namespace Go.Proofs.Ytmjkkkllmpagpaa
/- THE CELL 'sum', in the pinned program and in every row, IS THE sha256 OF THE DUMP (.gsa) THAT YtmjkkkllmpagpaaProg.lean LOADS. Nothing in Lean hashes anything: it is a label: what it is worth is what the hold of that sum in a sandbox is worth. -/
noncomputable def Try.pinned : Pinned := { name := "ytmjkkkllmpagpaa", sum := "2e4da1320db9be5b2aae22a6780e3dbf59128c1ed05998772a780fc730338813", checked := Try.checked }
namespace Rows
def none {H : Type} : Left H := { results := [], args := [] }

/-- 'beguinagelaw05.GeomEdges': WHATEVER THE INPUT: true; the input reads as it did. -/
def geomEdgesSpec : ChangeSpec := { name := "geomEdges", fn := fun _ => fun
  | [d1, d2] => { results := [.lit (.bool true)], args := [d1, d2] }
  | _ => none }
def geomEdgesRow : OpenClaim := { program := "ytmjkkkllmpagpaa", sum := "2e4da1320db9be5b2aae22a6780e3dbf59128c1ed05998772a780fc730338813", func := "beguinage/beguinagelaw05.GeomEdges", spec := "geomEdges", apart := false }
def GeomEdgesSaid : Prop := geomEdgesRow.holds Try.pinned (OpenSpec.ofChange geomEdgesSpec)

/-- ITS FALSE NEIGHBOUR: 'it returns false'. Refute it at one input. -/
def geomEdgesWrong : ChangeSpec := { name := "geomEdges", fn := fun _ => fun
  | [d1, d2] => { results := [.lit (.bool false)], args := [d1, d2] }
  | _ => none }
def GeomEdgesWrongFalsely : Prop := geomEdgesRow.holds Try.pinned (OpenSpec.ofChange geomEdgesWrong)

/-- 'beguinagelaw05.GeomRooms': WHATEVER THE INPUT: true; the input reads as it did. -/
def geomRoomsSpec : ChangeSpec := { name := "geomRooms", fn := fun _ => fun
  | [d1, d2, d3] => { results := [.lit (.bool true)], args := [d1, d2, d3] }
  | _ => none }
def geomRoomsRow : OpenClaim := { program := "ytmjkkkllmpagpaa", sum := "2e4da1320db9be5b2aae22a6780e3dbf59128c1ed05998772a780fc730338813", func := "beguinage/beguinagelaw05.GeomRooms", spec := "geomRooms", apart := false }
def GeomRoomsSaid : Prop := geomRoomsRow.holds Try.pinned (OpenSpec.ofChange geomRoomsSpec)

/-- ITS FALSE NEIGHBOUR: 'it returns false'. Refute it at one input. -/
def geomRoomsWrong : ChangeSpec := { name := "geomRooms", fn := fun _ => fun
  | [d1, d2, d3] => { results := [.lit (.bool false)], args := [d1, d2, d3] }
  | _ => none }
def GeomRoomsWrongFalsely : Prop := geomRoomsRow.holds Try.pinned (OpenSpec.ofChange geomRoomsWrong)

/-- 'beguinagelaw19.UsageAll': WHATEVER THE INPUT: true; the input reads as it did. -/
def usageAllSpec : ChangeSpec := { name := "usageAll", fn := fun _ => fun
  | [d1, d2] => { results := [.lit (.bool true)], args := [d1, d2] }
  | _ => none }
def usageAllRow : OpenClaim := { program := "ytmjkkkllmpagpaa", sum := "2e4da1320db9be5b2aae22a6780e3dbf59128c1ed05998772a780fc730338813", func := "beguinage/beguinagelaw19.UsageAll", spec := "usageAll", apart := false }
def UsageAllSaid : Prop := usageAllRow.holds Try.pinned (OpenSpec.ofChange usageAllSpec)

/-- ITS FALSE NEIGHBOUR: 'it returns false'. Refute it at one input. -/
def usageAllWrong : ChangeSpec := { name := "usageAll", fn := fun _ => fun
  | [d1, d2] => { results := [.lit (.bool false)], args := [d1, d2] }
  | _ => none }
def UsageAllWrongFalsely : Prop := usageAllRow.holds Try.pinned (OpenSpec.ofChange usageAllWrong)

/-- 'beguinagelaw19.UsageOrder': WHATEVER THE INPUT: true; the input reads as it did. -/
def usageOrderSpec : ChangeSpec := { name := "usageOrder", fn := fun _ => fun
  | [d1, d2, d3, d4] => { results := [.lit (.bool true)], args := [d1, d2, d3, d4] }
  | _ => none }
def usageOrderRow : OpenClaim := { program := "ytmjkkkllmpagpaa", sum := "2e4da1320db9be5b2aae22a6780e3dbf59128c1ed05998772a780fc730338813", func := "beguinage/beguinagelaw19.UsageOrder", spec := "usageOrder", apart := false }
def UsageOrderSaid : Prop := usageOrderRow.holds Try.pinned (OpenSpec.ofChange usageOrderSpec)

/-- ITS FALSE NEIGHBOUR: 'it returns false'. Refute it at one input. -/
def usageOrderWrong : ChangeSpec := { name := "usageOrder", fn := fun _ => fun
  | [d1, d2, d3, d4] => { results := [.lit (.bool false)], args := [d1, d2, d3, d4] }
  | _ => none }
def UsageOrderWrongFalsely : Prop := usageOrderRow.holds Try.pinned (OpenSpec.ofChange usageOrderWrong)

/-- 'beguinagelaw19.UsagePicks': WHATEVER THE INPUT: true; the input reads as it did. -/
def usagePicksSpec : ChangeSpec := { name := "usagePicks", fn := fun _ => fun
  | [d1, d2] => { results := [.lit (.bool true)], args := [d1, d2] }
  | _ => none }
def usagePicksRow : OpenClaim := { program := "ytmjkkkllmpagpaa", sum := "2e4da1320db9be5b2aae22a6780e3dbf59128c1ed05998772a780fc730338813", func := "beguinage/beguinagelaw19.UsagePicks", spec := "usagePicks", apart := false }
def UsagePicksSaid : Prop := usagePicksRow.holds Try.pinned (OpenSpec.ofChange usagePicksSpec)

/-- ITS FALSE NEIGHBOUR: 'it returns false'. Refute it at one input. -/
def usagePicksWrong : ChangeSpec := { name := "usagePicks", fn := fun _ => fun
  | [d1, d2] => { results := [.lit (.bool false)], args := [d1, d2] }
  | _ => none }
def UsagePicksWrongFalsely : Prop := usagePicksRow.holds Try.pinned (OpenSpec.ofChange usagePicksWrong)

/-- 'beguinagelaw19.UsageGains': WHATEVER THE INPUT: true; the input reads as it did. -/
def usageGainsSpec : ChangeSpec := { name := "usageGains", fn := fun _ => fun
  | [d1, d2, d3, d4] => { results := [.lit (.bool true)], args := [d1, d2, d3, d4] }
  | _ => none }
def usageGainsRow : OpenClaim := { program := "ytmjkkkllmpagpaa", sum := "2e4da1320db9be5b2aae22a6780e3dbf59128c1ed05998772a780fc730338813", func := "beguinage/beguinagelaw19.UsageGains", spec := "usageGains", apart := false }
def UsageGainsSaid : Prop := usageGainsRow.holds Try.pinned (OpenSpec.ofChange usageGainsSpec)

/-- ITS FALSE NEIGHBOUR: 'it returns false'. Refute it at one input. -/
def usageGainsWrong : ChangeSpec := { name := "usageGains", fn := fun _ => fun
  | [d1, d2, d3, d4] => { results := [.lit (.bool false)], args := [d1, d2, d3, d4] }
  | _ => none }
def UsageGainsWrongFalsely : Prop := usageGainsRow.holds Try.pinned (OpenSpec.ofChange usageGainsWrong)

/-- 'beguinagelaw05.GeomApart': WHATEVER THE INPUT: true; the input reads as it did. -/
def geomApartSpec : ChangeSpec := { name := "geomApart", fn := fun _ => fun
  | [d1, d2, d3, d4] => { results := [.lit (.bool true)], args := [d1, d2, d3, d4] }
  | _ => none }
def geomApartRow : OpenClaim := { program := "ytmjkkkllmpagpaa", sum := "2e4da1320db9be5b2aae22a6780e3dbf59128c1ed05998772a780fc730338813", func := "beguinage/beguinagelaw05.GeomApart", spec := "geomApart", apart := false }
def GeomApartSaid : Prop := geomApartRow.holds Try.pinned (OpenSpec.ofChange geomApartSpec)

/-- ITS FALSE NEIGHBOUR: 'it returns false'. Refute it at one input. -/
def geomApartWrong : ChangeSpec := { name := "geomApart", fn := fun _ => fun
  | [d1, d2, d3, d4] => { results := [.lit (.bool false)], args := [d1, d2, d3, d4] }
  | _ => none }
def GeomApartWrongFalsely : Prop := geomApartRow.holds Try.pinned (OpenSpec.ofChange geomApartWrong)

/-- 'beguinagelaw22.QuotaAll': WHATEVER THE INPUT: true; the input reads as it did. -/
def quotaAllSpec : ChangeSpec := { name := "quotaAll", fn := fun _ => fun
  | [d1, d2, d3, d4, d5] => { results := [.lit (.bool true)], args := [d1, d2, d3, d4, d5] }
  | _ => none }
def quotaAllRow : OpenClaim := { program := "ytmjkkkllmpagpaa", sum := "2e4da1320db9be5b2aae22a6780e3dbf59128c1ed05998772a780fc730338813", func := "beguinage/beguinagelaw22.QuotaAll", spec := "quotaAll", unfollowed := true, recurses := true, apart := false }
def QuotaAllSaid : Prop := quotaAllRow.holds Try.pinned (OpenSpec.ofChange quotaAllSpec)

/-- ITS FALSE NEIGHBOUR: 'it returns false'. Refute it at one input. -/
def quotaAllWrong : ChangeSpec := { name := "quotaAll", fn := fun _ => fun
  | [d1, d2, d3, d4, d5] => { results := [.lit (.bool false)], args := [d1, d2, d3, d4, d5] }
  | _ => none }
def QuotaAllWrongFalsely : Prop := quotaAllRow.holds Try.pinned (OpenSpec.ofChange quotaAllWrong)

/-- 'beguinagelaw22.QuotaGrace': WHATEVER THE INPUT: true; the input reads as it did. -/
def quotaGraceSpec : ChangeSpec := { name := "quotaGrace", fn := fun _ => fun
  | [d1, d2, d3, d4] => { results := [.lit (.bool true)], args := [d1, d2, d3, d4] }
  | _ => none }
def quotaGraceRow : OpenClaim := { program := "ytmjkkkllmpagpaa", sum := "2e4da1320db9be5b2aae22a6780e3dbf59128c1ed05998772a780fc730338813", func := "beguinage/beguinagelaw22.QuotaGrace", spec := "quotaGrace", unfollowed := true, recurses := true, apart := false }
def QuotaGraceSaid : Prop := quotaGraceRow.holds Try.pinned (OpenSpec.ofChange quotaGraceSpec)

/-- ITS FALSE NEIGHBOUR: 'it returns false'. Refute it at one input. -/
def quotaGraceWrong : ChangeSpec := { name := "quotaGrace", fn := fun _ => fun
  | [d1, d2, d3, d4] => { results := [.lit (.bool false)], args := [d1, d2, d3, d4] }
  | _ => none }
def QuotaGraceWrongFalsely : Prop := quotaGraceRow.holds Try.pinned (OpenSpec.ofChange quotaGraceWrong)

/-- 'beguinagelaw22.QuotaBoth': WHATEVER THE INPUT: true; the input reads as it did. -/
def quotaBothSpec : ChangeSpec := { name := "quotaBoth", fn := fun _ => fun
  | [d1, d2, d3] => { results := [.lit (.bool true)], args := [d1, d2, d3] }
  | _ => none }
def quotaBothRow : OpenClaim := { program := "ytmjkkkllmpagpaa", sum := "2e4da1320db9be5b2aae22a6780e3dbf59128c1ed05998772a780fc730338813", func := "beguinage/beguinagelaw22.QuotaBoth", spec := "quotaBoth", unfollowed := true, recurses := true, apart := false }
def QuotaBothSaid : Prop := quotaBothRow.holds Try.pinned (OpenSpec.ofChange quotaBothSpec)

/-- ITS FALSE NEIGHBOUR: 'it returns false'. Refute it at one input. -/
def quotaBothWrong : ChangeSpec := { name := "quotaBoth", fn := fun _ => fun
  | [d1, d2, d3] => { results := [.lit (.bool false)], args := [d1, d2, d3] }
  | _ => none }
def QuotaBothWrongFalsely : Prop := quotaBothRow.holds Try.pinned (OpenSpec.ofChange quotaBothWrong)

/-- 'beguinagelaw22.QuotaLess': WHATEVER THE INPUT: true; the input reads as it did. -/
def quotaLessSpec : ChangeSpec := { name := "quotaLess", fn := fun _ => fun
  | [d1, d2, d3, d4, d5] => { results := [.lit (.bool true)], args := [d1, d2, d3, d4, d5] }
  | _ => none }
def quotaLessRow : OpenClaim := { program := "ytmjkkkllmpagpaa", sum := "2e4da1320db9be5b2aae22a6780e3dbf59128c1ed05998772a780fc730338813", func := "beguinage/beguinagelaw22.QuotaLess", spec := "quotaLess", unfollowed := true, recurses := true, apart := false }
def QuotaLessSaid : Prop := quotaLessRow.holds Try.pinned (OpenSpec.ofChange quotaLessSpec)

/-- ITS FALSE NEIGHBOUR: 'it returns false'. Refute it at one input. -/
def quotaLessWrong : ChangeSpec := { name := "quotaLess", fn := fun _ => fun
  | [d1, d2, d3, d4, d5] => { results := [.lit (.bool false)], args := [d1, d2, d3, d4, d5] }
  | _ => none }
def QuotaLessWrongFalsely : Prop := quotaLessRow.holds Try.pinned (OpenSpec.ofChange quotaLessWrong)

/- THE SECOND FORM. 'bulk': how many values and letters a reading holds, each counted each time it is reached (what is shared counts as often as it is met; a slice's spare places count too). A statement '..UptoSaid' is the law's where the arguments, and the package variables that the reading takes, are together of bulk at most 1048576: NARROWER than '..Said'. Prove '..Said' where nothing that the law and all that it calls make is longer than what came in: it says more and counts as full. Else prove '..UptoSaid'. A law counts once. -/
mutual
def uptoBulk {H : Type} : DataW H → Nat
  | .lit (.string bytes) => bytes.length + 1
  | .lit _ => 1
  | .nil => 1
  | .ptr d => uptoBulk d + 1
  | .slice elems spare => uptoBulkAll elems + uptoBulkAll spare + 1
  | .agg parts => uptoBulkAll parts + 1
  | .iface _ d => uptoBulk d + 1
  | .map entries => uptoBulkEntries entries + 1
  | .held _ => 1
def uptoBulkAll {H : Type} : List (DataW H) → Nat
  | [] => 0
  | d :: r => uptoBulk d + uptoBulkAll r
def uptoBulkEntries {H : Type} : List (Lit × DataW H) → Nat
  | [] => 0
  | x :: r => uptoBulkEntry x + uptoBulkEntries r
def uptoBulkEntry {H : Type} : Lit × DataW H → Nat
  | (.string bytes, d) => bytes.length + uptoBulk d + 1
  | (_, d) => uptoBulk d + 1
 end
def uptoSmall : (H : Type) → List (DataW H) → Bool := fun _ ds => decide (uptoBulkAll ds ≤ 1048576)
def OpenSpec.upto (s : _root_.Go.ChangeSpec) : _root_.Go.OpenSpec := { _root_.Go.OpenSpec.ofChange s with cond := some uptoSmall }

/-- 'beguinagelaw05.GeomEdges', WHERE WHAT IT READS IS OF BULK AT MOST 1048576: true; the input reads as it did. -/
def geomEdgesUptoRow : OpenClaim := { program := "ytmjkkkllmpagpaa", sum := "2e4da1320db9be5b2aae22a6780e3dbf59128c1ed05998772a780fc730338813", func := "beguinage/beguinagelaw05.GeomEdges", spec := "geomEdges", apart := false, narrowed := true }
def GeomEdgesUptoSaid : Prop := geomEdgesUptoRow.holds Try.pinned (OpenSpec.upto geomEdgesSpec)

/-- 'beguinagelaw05.GeomRooms', WHERE WHAT IT READS IS OF BULK AT MOST 1048576: true; the input reads as it did. -/
def geomRoomsUptoRow : OpenClaim := { program := "ytmjkkkllmpagpaa", sum := "2e4da1320db9be5b2aae22a6780e3dbf59128c1ed05998772a780fc730338813", func := "beguinage/beguinagelaw05.GeomRooms", spec := "geomRooms", apart := false, narrowed := true }
def GeomRoomsUptoSaid : Prop := geomRoomsUptoRow.holds Try.pinned (OpenSpec.upto geomRoomsSpec)

/-- 'beguinagelaw19.UsageAll', WHERE WHAT IT READS IS OF BULK AT MOST 1048576: true; the input reads as it did. -/
def usageAllUptoRow : OpenClaim := { program := "ytmjkkkllmpagpaa", sum := "2e4da1320db9be5b2aae22a6780e3dbf59128c1ed05998772a780fc730338813", func := "beguinage/beguinagelaw19.UsageAll", spec := "usageAll", apart := false, narrowed := true }
def UsageAllUptoSaid : Prop := usageAllUptoRow.holds Try.pinned (OpenSpec.upto usageAllSpec)

/-- 'beguinagelaw19.UsageOrder', WHERE WHAT IT READS IS OF BULK AT MOST 1048576: true; the input reads as it did. -/
def usageOrderUptoRow : OpenClaim := { program := "ytmjkkkllmpagpaa", sum := "2e4da1320db9be5b2aae22a6780e3dbf59128c1ed05998772a780fc730338813", func := "beguinage/beguinagelaw19.UsageOrder", spec := "usageOrder", apart := false, narrowed := true }
def UsageOrderUptoSaid : Prop := usageOrderUptoRow.holds Try.pinned (OpenSpec.upto usageOrderSpec)

/-- 'beguinagelaw19.UsagePicks', WHERE WHAT IT READS IS OF BULK AT MOST 1048576: true; the input reads as it did. -/
def usagePicksUptoRow : OpenClaim := { program := "ytmjkkkllmpagpaa", sum := "2e4da1320db9be5b2aae22a6780e3dbf59128c1ed05998772a780fc730338813", func := "beguinage/beguinagelaw19.UsagePicks", spec := "usagePicks", apart := false, narrowed := true }
def UsagePicksUptoSaid : Prop := usagePicksUptoRow.holds Try.pinned (OpenSpec.upto usagePicksSpec)

/-- 'beguinagelaw19.UsageGains', WHERE WHAT IT READS IS OF BULK AT MOST 1048576: true; the input reads as it did. -/
def usageGainsUptoRow : OpenClaim := { program := "ytmjkkkllmpagpaa", sum := "2e4da1320db9be5b2aae22a6780e3dbf59128c1ed05998772a780fc730338813", func := "beguinage/beguinagelaw19.UsageGains", spec := "usageGains", apart := false, narrowed := true }
def UsageGainsUptoSaid : Prop := usageGainsUptoRow.holds Try.pinned (OpenSpec.upto usageGainsSpec)

/-- 'beguinagelaw05.GeomApart', WHERE WHAT IT READS IS OF BULK AT MOST 1048576: true; the input reads as it did. -/
def geomApartUptoRow : OpenClaim := { program := "ytmjkkkllmpagpaa", sum := "2e4da1320db9be5b2aae22a6780e3dbf59128c1ed05998772a780fc730338813", func := "beguinage/beguinagelaw05.GeomApart", spec := "geomApart", apart := false, narrowed := true }
def GeomApartUptoSaid : Prop := geomApartUptoRow.holds Try.pinned (OpenSpec.upto geomApartSpec)

/-- 'beguinagelaw22.QuotaAll', WHERE WHAT IT READS IS OF BULK AT MOST 1048576: true; the input reads as it did. -/
def quotaAllUptoRow : OpenClaim := { program := "ytmjkkkllmpagpaa", sum := "2e4da1320db9be5b2aae22a6780e3dbf59128c1ed05998772a780fc730338813", func := "beguinage/beguinagelaw22.QuotaAll", spec := "quotaAll", unfollowed := true, recurses := true, apart := false, narrowed := true }
def QuotaAllUptoSaid : Prop := quotaAllUptoRow.holds Try.pinned (OpenSpec.upto quotaAllSpec)

/-- 'beguinagelaw22.QuotaGrace', WHERE WHAT IT READS IS OF BULK AT MOST 1048576: true; the input reads as it did. -/
def quotaGraceUptoRow : OpenClaim := { program := "ytmjkkkllmpagpaa", sum := "2e4da1320db9be5b2aae22a6780e3dbf59128c1ed05998772a780fc730338813", func := "beguinage/beguinagelaw22.QuotaGrace", spec := "quotaGrace", unfollowed := true, recurses := true, apart := false, narrowed := true }
def QuotaGraceUptoSaid : Prop := quotaGraceUptoRow.holds Try.pinned (OpenSpec.upto quotaGraceSpec)

/-- 'beguinagelaw22.QuotaBoth', WHERE WHAT IT READS IS OF BULK AT MOST 1048576: true; the input reads as it did. -/
def quotaBothUptoRow : OpenClaim := { program := "ytmjkkkllmpagpaa", sum := "2e4da1320db9be5b2aae22a6780e3dbf59128c1ed05998772a780fc730338813", func := "beguinage/beguinagelaw22.QuotaBoth", spec := "quotaBoth", unfollowed := true, recurses := true, apart := false, narrowed := true }
def QuotaBothUptoSaid : Prop := quotaBothUptoRow.holds Try.pinned (OpenSpec.upto quotaBothSpec)

/-- 'beguinagelaw22.QuotaLess', WHERE WHAT IT READS IS OF BULK AT MOST 1048576: true; the input reads as it did. -/
def quotaLessUptoRow : OpenClaim := { program := "ytmjkkkllmpagpaa", sum := "2e4da1320db9be5b2aae22a6780e3dbf59128c1ed05998772a780fc730338813", func := "beguinage/beguinagelaw22.QuotaLess", spec := "quotaLess", unfollowed := true, recurses := true, apart := false, narrowed := true }
def QuotaLessUptoSaid : Prop := quotaLessUptoRow.holds Try.pinned (OpenSpec.upto quotaLessSpec)

end Rows
end Go.Proofs.Ytmjkkkllmpagpaa
