/-
  No cell of these rows narrows 'for every input' (looked for: loops, veiled, ifaces, maps, wideKeys, modest, calm, conditions, laid).
  DERIVED. THE GIVEN ROWS OF THIS SEAT. 8 by the template 'for every input the law returns true; each argument reads behind the call as it read before'; 0 by the template 'total and deterministic' (their statements: YtbdghlneiblkcaaTotals.lean).
  GIVEN WITH THE SEED: the statements are not yours to turn. If you find one false, say at which input.
  Laid BY PROGRAM, IN A SANDBOX (cutbox-rows.mjs): the forced cells as the released guide's own fill.sh prints them over the translation de86bfd24fdc24f0… (all of the seat's roots in one cut). By AI agents, Wed Nov 11 2026. No macro, syntax, notation, axiom, sorry.
-/
import Derived.Test.YtbdghlneiblkcaaChecked
import GoSem.Claim
import GoSem.ClaimJoined
import GoSem.ClaimMapViews
import Derived.JoinedTies
import Derived.KernelRfl
namespace Go.Proofs.Ytbdghlneiblkcaa
/- THE CELL 'sum', in the pinned program and in every row, IS THE sha256 OF THE DUMP (.gsa) THAT YtbdghlneiblkcaaProg.lean LOADS. Nothing in Lean hashes anything: it is a label: what it is worth is what the hold of that sum in a sandbox is worth. -/
noncomputable def Try.pinned : Pinned := { name := "ytbdghlneiblkcaa", sum := "de86bfd24fdc24f0d2460d460882d49f7b72c0d1dc081e767b0ce2896aa6794f", checked := Try.checked }
namespace Rows
def none {H : Type} : Left H := { results := [], args := [] }

/-- 'beguinagelaw17.ImapFirsts': WHATEVER THE INPUT: true; the input reads as it did. -/
def imapFirstsSpec : ChangeSpec := { name := "imapFirsts", fn := fun _ => fun
  | [d1, d2] => { results := [.lit (.bool true)], args := [d1, d2] }
  | _ => none }
def imapFirstsRow : OpenClaim := { program := "ytbdghlneiblkcaa", sum := "de86bfd24fdc24f0d2460d460882d49f7b72c0d1dc081e767b0ce2896aa6794f", func := "beguinage/beguinagelaw17.ImapFirsts", spec := "imapFirsts", apart := false }
def ImapFirstsSaid : Prop := imapFirstsRow.holds Try.pinned (OpenSpec.ofChange imapFirstsSpec)

/-- ITS FALSE NEIGHBOUR: 'it returns false'. Refute it at one input. -/
def imapFirstsWrong : ChangeSpec := { name := "imapFirsts", fn := fun _ => fun
  | [d1, d2] => { results := [.lit (.bool false)], args := [d1, d2] }
  | _ => none }
def ImapFirstsWrongFalsely : Prop := imapFirstsRow.holds Try.pinned (OpenSpec.ofChange imapFirstsWrong)

/-- 'beguinagelaw10.SpanNeeds': WHATEVER THE INPUT: true; the input reads as it did. -/
def spanNeedsSpec : ChangeSpec := { name := "spanNeeds", fn := fun _ => fun
  | [d1, d2] => { results := [.lit (.bool true)], args := [d1, d2] }
  | _ => none }
def spanNeedsRow : OpenClaim := { program := "ytbdghlneiblkcaa", sum := "de86bfd24fdc24f0d2460d460882d49f7b72c0d1dc081e767b0ce2896aa6794f", func := "beguinage/beguinagelaw10.SpanNeeds", spec := "spanNeeds", apart := false }
def SpanNeedsSaid : Prop := spanNeedsRow.holds Try.pinned (OpenSpec.ofChange spanNeedsSpec)

/-- ITS FALSE NEIGHBOUR: 'it returns false'. Refute it at one input. -/
def spanNeedsWrong : ChangeSpec := { name := "spanNeeds", fn := fun _ => fun
  | [d1, d2] => { results := [.lit (.bool false)], args := [d1, d2] }
  | _ => none }
def SpanNeedsWrongFalsely : Prop := spanNeedsRow.holds Try.pinned (OpenSpec.ofChange spanNeedsWrong)

/-- 'beguinagelaw10.SpanCounts': WHATEVER THE INPUT: true; the input reads as it did. -/
def spanCountsSpec : ChangeSpec := { name := "spanCounts", fn := fun _ => fun
  | [d1, d2] => { results := [.lit (.bool true)], args := [d1, d2] }
  | _ => none }
def spanCountsRow : OpenClaim := { program := "ytbdghlneiblkcaa", sum := "de86bfd24fdc24f0d2460d460882d49f7b72c0d1dc081e767b0ce2896aa6794f", func := "beguinage/beguinagelaw10.SpanCounts", spec := "spanCounts", apart := false }
def SpanCountsSaid : Prop := spanCountsRow.holds Try.pinned (OpenSpec.ofChange spanCountsSpec)

/-- ITS FALSE NEIGHBOUR: 'it returns false'. Refute it at one input. -/
def spanCountsWrong : ChangeSpec := { name := "spanCounts", fn := fun _ => fun
  | [d1, d2] => { results := [.lit (.bool false)], args := [d1, d2] }
  | _ => none }
def SpanCountsWrongFalsely : Prop := spanCountsRow.holds Try.pinned (OpenSpec.ofChange spanCountsWrong)

/-- 'beguinagelaw10.SpanWays': WHATEVER THE INPUT: true; the input reads as it did. -/
def spanWaysSpec : ChangeSpec := { name := "spanWays", fn := fun _ => fun
  | [d1, d2, d3] => { results := [.lit (.bool true)], args := [d1, d2, d3] }
  | _ => none }
def spanWaysRow : OpenClaim := { program := "ytbdghlneiblkcaa", sum := "de86bfd24fdc24f0d2460d460882d49f7b72c0d1dc081e767b0ce2896aa6794f", func := "beguinage/beguinagelaw10.SpanWays", spec := "spanWays", apart := false }
def SpanWaysSaid : Prop := spanWaysRow.holds Try.pinned (OpenSpec.ofChange spanWaysSpec)

/-- ITS FALSE NEIGHBOUR: 'it returns false'. Refute it at one input. -/
def spanWaysWrong : ChangeSpec := { name := "spanWays", fn := fun _ => fun
  | [d1, d2, d3] => { results := [.lit (.bool false)], args := [d1, d2, d3] }
  | _ => none }
def SpanWaysWrongFalsely : Prop := spanWaysRow.holds Try.pinned (OpenSpec.ofChange spanWaysWrong)

/-- 'beguinagelaw10.SpanAll': WHATEVER THE INPUT: true; the input reads as it did. -/
def spanAllSpec : ChangeSpec := { name := "spanAll", fn := fun _ => fun
  | [d1, d2, d3] => { results := [.lit (.bool true)], args := [d1, d2, d3] }
  | _ => none }
def spanAllRow : OpenClaim := { program := "ytbdghlneiblkcaa", sum := "de86bfd24fdc24f0d2460d460882d49f7b72c0d1dc081e767b0ce2896aa6794f", func := "beguinage/beguinagelaw10.SpanAll", spec := "spanAll", apart := false }
def SpanAllSaid : Prop := spanAllRow.holds Try.pinned (OpenSpec.ofChange spanAllSpec)

/-- ITS FALSE NEIGHBOUR: 'it returns false'. Refute it at one input. -/
def spanAllWrong : ChangeSpec := { name := "spanAll", fn := fun _ => fun
  | [d1, d2, d3] => { results := [.lit (.bool false)], args := [d1, d2, d3] }
  | _ => none }
def SpanAllWrongFalsely : Prop := spanAllRow.holds Try.pinned (OpenSpec.ofChange spanAllWrong)

/-- 'beguinagelaw17.ImapPlays': WHATEVER THE INPUT: true; the input reads as it did. -/
def imapPlaysSpec : ChangeSpec := { name := "imapPlays", fn := fun _ => fun
  | [d1, d2, d3, d4] => { results := [.lit (.bool true)], args := [d1, d2, d3, d4] }
  | _ => none }
def imapPlaysRow : OpenClaim := { program := "ytbdghlneiblkcaa", sum := "de86bfd24fdc24f0d2460d460882d49f7b72c0d1dc081e767b0ce2896aa6794f", func := "beguinage/beguinagelaw17.ImapPlays", spec := "imapPlays", apart := false }
def ImapPlaysSaid : Prop := imapPlaysRow.holds Try.pinned (OpenSpec.ofChange imapPlaysSpec)

/-- ITS FALSE NEIGHBOUR: 'it returns false'. Refute it at one input. -/
def imapPlaysWrong : ChangeSpec := { name := "imapPlays", fn := fun _ => fun
  | [d1, d2, d3, d4] => { results := [.lit (.bool false)], args := [d1, d2, d3, d4] }
  | _ => none }
def ImapPlaysWrongFalsely : Prop := imapPlaysRow.holds Try.pinned (OpenSpec.ofChange imapPlaysWrong)

/-- 'beguinagelaw17.ImapParts': WHATEVER THE INPUT: true; the input reads as it did. -/
def imapPartsSpec : ChangeSpec := { name := "imapParts", fn := fun _ => fun
  | [d] => { results := [.lit (.bool true)], args := [d] }
  | _ => none }
def imapPartsRow : OpenClaim := { program := "ytbdghlneiblkcaa", sum := "de86bfd24fdc24f0d2460d460882d49f7b72c0d1dc081e767b0ce2896aa6794f", func := "beguinage/beguinagelaw17.ImapParts", spec := "imapParts", apart := false }
def ImapPartsSaid : Prop := imapPartsRow.holds Try.pinned (OpenSpec.ofChange imapPartsSpec)

/-- ITS FALSE NEIGHBOUR: 'it returns false'. Refute it at one input. -/
def imapPartsWrong : ChangeSpec := { name := "imapParts", fn := fun _ => fun
  | [d] => { results := [.lit (.bool false)], args := [d] }
  | _ => none }
def ImapPartsWrongFalsely : Prop := imapPartsRow.holds Try.pinned (OpenSpec.ofChange imapPartsWrong)

/-- 'beguinagelaw17.ImapWrong': WHATEVER THE INPUT: true; the input reads as it did. -/
def imapWrongSpec : ChangeSpec := { name := "imapWrong", fn := fun _ => fun
  | [d1, d2, d3] => { results := [.lit (.bool true)], args := [d1, d2, d3] }
  | _ => none }
def imapWrongRow : OpenClaim := { program := "ytbdghlneiblkcaa", sum := "de86bfd24fdc24f0d2460d460882d49f7b72c0d1dc081e767b0ce2896aa6794f", func := "beguinage/beguinagelaw17.ImapWrong", spec := "imapWrong", apart := false }
def ImapWrongSaid : Prop := imapWrongRow.holds Try.pinned (OpenSpec.ofChange imapWrongSpec)

/-- ITS FALSE NEIGHBOUR: 'it returns false'. Refute it at one input. -/
def imapWrongWrong : ChangeSpec := { name := "imapWrong", fn := fun _ => fun
  | [d1, d2, d3] => { results := [.lit (.bool false)], args := [d1, d2, d3] }
  | _ => none }
def ImapWrongWrongFalsely : Prop := imapWrongRow.holds Try.pinned (OpenSpec.ofChange imapWrongWrong)

/- THE SECOND FORM. 'bulk': how many values and letters a reading holds, each counted each time it is reached (what is shared counts as often as it is met; a slice's spare places count too). A statement '..UptoSaid' is the law's where the arguments, and the package variables that the reading takes, are together of bulk at most 1048576: NARROWER than '..Said'. Prove '..Said' where nothing that the law and all that it calls make is longer than what came in: it says more and counts as full. Else prove '..UptoSaid'. A law counts once. -/
mutual
def uptoBulk {H : Type} : DataW H → Nat
  | .lit (.string bytes) => bytes.length + 1
  | .lit _ => 1
  | .nil => 1
  | .ptr d => uptoBulk d + 1
  | .slice elems spare => uptoBulkAll elems + uptoBulkAll spare + 1
  | .agg parts => uptoBulkAll parts + 1
  | .iface _ d => uptoBulk d + 1
  | .map entries => uptoBulkEntries entries + 1
  | .held _ => 1
def uptoBulkAll {H : Type} : List (DataW H) → Nat
  | [] => 0
  | d :: r => uptoBulk d + uptoBulkAll r
def uptoBulkEntries {H : Type} : List (Lit × DataW H) → Nat
  | [] => 0
  | x :: r => uptoBulkEntry x + uptoBulkEntries r
def uptoBulkEntry {H : Type} : Lit × DataW H → Nat
  | (.string bytes, d) => bytes.length + uptoBulk d + 1
  | (_, d) => uptoBulk d + 1
 end
def uptoSmall : (H : Type) → List (DataW H) → Bool := fun _ ds => decide (uptoBulkAll ds ≤ 1048576)
def OpenSpec.upto (s : _root_.Go.ChangeSpec) : _root_.Go.OpenSpec := { _root_.Go.OpenSpec.ofChange s with cond := some uptoSmall }

/-- 'beguinagelaw17.ImapFirsts', WHERE WHAT IT READS IS OF BULK AT MOST 1048576: true; the input reads as it did. -/
def imapFirstsUptoRow : OpenClaim := { program := "ytbdghlneiblkcaa", sum := "de86bfd24fdc24f0d2460d460882d49f7b72c0d1dc081e767b0ce2896aa6794f", func := "beguinage/beguinagelaw17.ImapFirsts", spec := "imapFirsts", apart := false, narrowed := true }
def ImapFirstsUptoSaid : Prop := imapFirstsUptoRow.holds Try.pinned (OpenSpec.upto imapFirstsSpec)

/-- 'beguinagelaw10.SpanNeeds', WHERE WHAT IT READS IS OF BULK AT MOST 1048576: true; the input reads as it did. -/
def spanNeedsUptoRow : OpenClaim := { program := "ytbdghlneiblkcaa", sum := "de86bfd24fdc24f0d2460d460882d49f7b72c0d1dc081e767b0ce2896aa6794f", func := "beguinage/beguinagelaw10.SpanNeeds", spec := "spanNeeds", apart := false, narrowed := true }
def SpanNeedsUptoSaid : Prop := spanNeedsUptoRow.holds Try.pinned (OpenSpec.upto spanNeedsSpec)

/-- 'beguinagelaw10.SpanCounts', WHERE WHAT IT READS IS OF BULK AT MOST 1048576: true; the input reads as it did. -/
def spanCountsUptoRow : OpenClaim := { program := "ytbdghlneiblkcaa", sum := "de86bfd24fdc24f0d2460d460882d49f7b72c0d1dc081e767b0ce2896aa6794f", func := "beguinage/beguinagelaw10.SpanCounts", spec := "spanCounts", apart := false, narrowed := true }
def SpanCountsUptoSaid : Prop := spanCountsUptoRow.holds Try.pinned (OpenSpec.upto spanCountsSpec)

/-- 'beguinagelaw10.SpanWays', WHERE WHAT IT READS IS OF BULK AT MOST 1048576: true; the input reads as it did. -/
def spanWaysUptoRow : OpenClaim := { program := "ytbdghlneiblkcaa", sum := "de86bfd24fdc24f0d2460d460882d49f7b72c0d1dc081e767b0ce2896aa6794f", func := "beguinage/beguinagelaw10.SpanWays", spec := "spanWays", apart := false, narrowed := true }
def SpanWaysUptoSaid : Prop := spanWaysUptoRow.holds Try.pinned (OpenSpec.upto spanWaysSpec)

/-- 'beguinagelaw10.SpanAll', WHERE WHAT IT READS IS OF BULK AT MOST 1048576: true; the input reads as it did. -/
def spanAllUptoRow : OpenClaim := { program := "ytbdghlneiblkcaa", sum := "de86bfd24fdc24f0d2460d460882d49f7b72c0d1dc081e767b0ce2896aa6794f", func := "beguinage/beguinagelaw10.SpanAll", spec := "spanAll", apart := false, narrowed := true }
def SpanAllUptoSaid : Prop := spanAllUptoRow.holds Try.pinned (OpenSpec.upto spanAllSpec)

/-- 'beguinagelaw17.ImapPlays', WHERE WHAT IT READS IS OF BULK AT MOST 1048576: true; the input reads as it did. -/
def imapPlaysUptoRow : OpenClaim := { program := "ytbdghlneiblkcaa", sum := "de86bfd24fdc24f0d2460d460882d49f7b72c0d1dc081e767b0ce2896aa6794f", func := "beguinage/beguinagelaw17.ImapPlays", spec := "imapPlays", apart := false, narrowed := true }
def ImapPlaysUptoSaid : Prop := imapPlaysUptoRow.holds Try.pinned (OpenSpec.upto imapPlaysSpec)

/-- 'beguinagelaw17.ImapParts', WHERE WHAT IT READS IS OF BULK AT MOST 1048576: true; the input reads as it did. -/
def imapPartsUptoRow : OpenClaim := { program := "ytbdghlneiblkcaa", sum := "de86bfd24fdc24f0d2460d460882d49f7b72c0d1dc081e767b0ce2896aa6794f", func := "beguinage/beguinagelaw17.ImapParts", spec := "imapParts", apart := false, narrowed := true }
def ImapPartsUptoSaid : Prop := imapPartsUptoRow.holds Try.pinned (OpenSpec.upto imapPartsSpec)

/-- 'beguinagelaw17.ImapWrong', WHERE WHAT IT READS IS OF BULK AT MOST 1048576: true; the input reads as it did. -/
def imapWrongUptoRow : OpenClaim := { program := "ytbdghlneiblkcaa", sum := "de86bfd24fdc24f0d2460d460882d49f7b72c0d1dc081e767b0ce2896aa6794f", func := "beguinage/beguinagelaw17.ImapWrong", spec := "imapWrong", apart := false, narrowed := true }
def ImapWrongUptoSaid : Prop := imapWrongUptoRow.holds Try.pinned (OpenSpec.upto imapWrongSpec)

end Rows
end Go.Proofs.Ytbdghlneiblkcaa
