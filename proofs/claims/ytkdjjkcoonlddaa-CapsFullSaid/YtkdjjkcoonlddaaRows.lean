/-
  No cell of these rows narrows 'for every input' (looked for: loops, veiled, ifaces, maps, wideKeys, modest, calm, conditions, laid).
  DERIVED. THE GIVEN ROWS OF THIS SEAT. 12 by the template 'for every input the law returns true; each argument reads behind the call as it read before'; 0 by the template 'total and deterministic' (their statements: YtkdjjkcoonlddaaTotals.lean).
  GIVEN WITH THE SEED: the statements are not yours to turn. If you find one false, say at which input.
  Laid BY PROGRAM, IN A SANDBOX (cutbox-rows.mjs): the forced cells as the released guide's own fill.sh prints them over the translation d4c92e9135a46352… (all of the seat's roots in one cut). By AI agents, Wed Nov 11 2026. No macro, syntax, notation, axiom, sorry.
-/
import Derived.Test.YtkdjjkcoonlddaaChecked
import GoSem.Claim
import GoSem.ClaimJoined
import GoSem.ClaimMapViews
import Derived.JoinedTies
import Derived.KernelRfl
namespace Go.Proofs.Ytkdjjkcoonlddaa
/- THE CELL 'sum', in the pinned program and in every row, IS THE sha256 OF THE DUMP (.gsa) THAT YtkdjjkcoonlddaaProg.lean LOADS. Nothing in Lean hashes anything: it is a label: what it is worth is what the hold of that sum in a sandbox is worth. -/
noncomputable def Try.pinned : Pinned := { name := "ytkdjjkcoonlddaa", sum := "d4c92e9135a46352bacf56a8b2cf32779a2a574983aae4457810a56cb7a96fb0", checked := Try.checked }
namespace Rows
def none {H : Type} : Left H := { results := [], args := [] }

/-- 'beguinagelaw12.PoolAll': WHATEVER THE INPUT: true; the input reads as it did. -/
def poolAllSpec : ChangeSpec := { name := "poolAll", fn := fun _ => fun
  | [d1, d2, d3] => { results := [.lit (.bool true)], args := [d1, d2, d3] }
  | _ => none }
def poolAllRow : OpenClaim := { program := "ytkdjjkcoonlddaa", sum := "d4c92e9135a46352bacf56a8b2cf32779a2a574983aae4457810a56cb7a96fb0", func := "beguinage/beguinagelaw12.PoolAll", spec := "poolAll", apart := false }
def PoolAllSaid : Prop := poolAllRow.holds Try.pinned (OpenSpec.ofChange poolAllSpec)

/-- ITS FALSE NEIGHBOUR: 'it returns false'. Refute it at one input. -/
def poolAllWrong : ChangeSpec := { name := "poolAll", fn := fun _ => fun
  | [d1, d2, d3] => { results := [.lit (.bool false)], args := [d1, d2, d3] }
  | _ => none }
def PoolAllWrongFalsely : Prop := poolAllRow.holds Try.pinned (OpenSpec.ofChange poolAllWrong)

/-- 'beguinagelaw12.PoolApart': WHATEVER THE INPUT: true; the input reads as it did. -/
def poolApartSpec : ChangeSpec := { name := "poolApart", fn := fun _ => fun
  | [d1, d2] => { results := [.lit (.bool true)], args := [d1, d2] }
  | _ => none }
def poolApartRow : OpenClaim := { program := "ytkdjjkcoonlddaa", sum := "d4c92e9135a46352bacf56a8b2cf32779a2a574983aae4457810a56cb7a96fb0", func := "beguinage/beguinagelaw12.PoolApart", spec := "poolApart", apart := false }
def PoolApartSaid : Prop := poolApartRow.holds Try.pinned (OpenSpec.ofChange poolApartSpec)

/-- ITS FALSE NEIGHBOUR: 'it returns false'. Refute it at one input. -/
def poolApartWrong : ChangeSpec := { name := "poolApart", fn := fun _ => fun
  | [d1, d2] => { results := [.lit (.bool false)], args := [d1, d2] }
  | _ => none }
def PoolApartWrongFalsely : Prop := poolApartRow.holds Try.pinned (OpenSpec.ofChange poolApartWrong)

/-- 'beguinagelaw12.PoolOrder': WHATEVER THE INPUT: true; the input reads as it did. -/
def poolOrderSpec : ChangeSpec := { name := "poolOrder", fn := fun _ => fun
  | [d1, d2, d3] => { results := [.lit (.bool true)], args := [d1, d2, d3] }
  | _ => none }
def poolOrderRow : OpenClaim := { program := "ytkdjjkcoonlddaa", sum := "d4c92e9135a46352bacf56a8b2cf32779a2a574983aae4457810a56cb7a96fb0", func := "beguinage/beguinagelaw12.PoolOrder", spec := "poolOrder", apart := false }
def PoolOrderSaid : Prop := poolOrderRow.holds Try.pinned (OpenSpec.ofChange poolOrderSpec)

/-- ITS FALSE NEIGHBOUR: 'it returns false'. Refute it at one input. -/
def poolOrderWrong : ChangeSpec := { name := "poolOrder", fn := fun _ => fun
  | [d1, d2, d3] => { results := [.lit (.bool false)], args := [d1, d2, d3] }
  | _ => none }
def PoolOrderWrongFalsely : Prop := poolOrderRow.holds Try.pinned (OpenSpec.ofChange poolOrderWrong)

/-- 'beguinagelaw12.PoolMore': WHATEVER THE INPUT: true; the input reads as it did. -/
def poolMoreSpec : ChangeSpec := { name := "poolMore", fn := fun _ => fun
  | [d1, d2] => { results := [.lit (.bool true)], args := [d1, d2] }
  | _ => none }
def poolMoreRow : OpenClaim := { program := "ytkdjjkcoonlddaa", sum := "d4c92e9135a46352bacf56a8b2cf32779a2a574983aae4457810a56cb7a96fb0", func := "beguinage/beguinagelaw12.PoolMore", spec := "poolMore", apart := false }
def PoolMoreSaid : Prop := poolMoreRow.holds Try.pinned (OpenSpec.ofChange poolMoreSpec)

/-- ITS FALSE NEIGHBOUR: 'it returns false'. Refute it at one input. -/
def poolMoreWrong : ChangeSpec := { name := "poolMore", fn := fun _ => fun
  | [d1, d2] => { results := [.lit (.bool false)], args := [d1, d2] }
  | _ => none }
def PoolMoreWrongFalsely : Prop := poolMoreRow.holds Try.pinned (OpenSpec.ofChange poolMoreWrong)

/-- 'beguinagelaw23.CapsFull': WHATEVER THE INPUT: true; the input reads as it did. -/
def capsFullSpec : ChangeSpec := { name := "capsFull", fn := fun _ => fun
  | [d1, d2] => { results := [.lit (.bool true)], args := [d1, d2] }
  | _ => none }
def capsFullRow : OpenClaim := { program := "ytkdjjkcoonlddaa", sum := "d4c92e9135a46352bacf56a8b2cf32779a2a574983aae4457810a56cb7a96fb0", func := "beguinage/beguinagelaw23.CapsFull", spec := "capsFull", apart := false }
def CapsFullSaid : Prop := capsFullRow.holds Try.pinned (OpenSpec.ofChange capsFullSpec)

/-- ITS FALSE NEIGHBOUR: 'it returns false'. Refute it at one input. -/
def capsFullWrong : ChangeSpec := { name := "capsFull", fn := fun _ => fun
  | [d1, d2] => { results := [.lit (.bool false)], args := [d1, d2] }
  | _ => none }
def CapsFullWrongFalsely : Prop := capsFullRow.holds Try.pinned (OpenSpec.ofChange capsFullWrong)

/-- 'beguinagelaw23.CapsApart': WHATEVER THE INPUT: true; the input reads as it did. -/
def capsApartSpec : ChangeSpec := { name := "capsApart", fn := fun _ => fun
  | [d1, d2, d3] => { results := [.lit (.bool true)], args := [d1, d2, d3] }
  | _ => none }
def capsApartRow : OpenClaim := { program := "ytkdjjkcoonlddaa", sum := "d4c92e9135a46352bacf56a8b2cf32779a2a574983aae4457810a56cb7a96fb0", func := "beguinage/beguinagelaw23.CapsApart", spec := "capsApart", apart := false }
def CapsApartSaid : Prop := capsApartRow.holds Try.pinned (OpenSpec.ofChange capsApartSpec)

/-- ITS FALSE NEIGHBOUR: 'it returns false'. Refute it at one input. -/
def capsApartWrong : ChangeSpec := { name := "capsApart", fn := fun _ => fun
  | [d1, d2, d3] => { results := [.lit (.bool false)], args := [d1, d2, d3] }
  | _ => none }
def CapsApartWrongFalsely : Prop := capsApartRow.holds Try.pinned (OpenSpec.ofChange capsApartWrong)

/-- 'beguinagelaw23.CapsPlays': WHATEVER THE INPUT: true; the input reads as it did. -/
def capsPlaysSpec : ChangeSpec := { name := "capsPlays", fn := fun _ => fun
  | [d1, d2, d3, d4] => { results := [.lit (.bool true)], args := [d1, d2, d3, d4] }
  | _ => none }
def capsPlaysRow : OpenClaim := { program := "ytkdjjkcoonlddaa", sum := "d4c92e9135a46352bacf56a8b2cf32779a2a574983aae4457810a56cb7a96fb0", func := "beguinage/beguinagelaw23.CapsPlays", spec := "capsPlays", apart := false }
def CapsPlaysSaid : Prop := capsPlaysRow.holds Try.pinned (OpenSpec.ofChange capsPlaysSpec)

/-- ITS FALSE NEIGHBOUR: 'it returns false'. Refute it at one input. -/
def capsPlaysWrong : ChangeSpec := { name := "capsPlays", fn := fun _ => fun
  | [d1, d2, d3, d4] => { results := [.lit (.bool false)], args := [d1, d2, d3, d4] }
  | _ => none }
def CapsPlaysWrongFalsely : Prop := capsPlaysRow.holds Try.pinned (OpenSpec.ofChange capsPlaysWrong)

/-- 'beguinagelaw23.CapsOpens': WHATEVER THE INPUT: true; the input reads as it did. -/
def capsOpensSpec : ChangeSpec := { name := "capsOpens", fn := fun _ => fun
  | [d] => { results := [.lit (.bool true)], args := [d] }
  | _ => none }
def capsOpensRow : OpenClaim := { program := "ytkdjjkcoonlddaa", sum := "d4c92e9135a46352bacf56a8b2cf32779a2a574983aae4457810a56cb7a96fb0", func := "beguinage/beguinagelaw23.CapsOpens", spec := "capsOpens", apart := false }
def CapsOpensSaid : Prop := capsOpensRow.holds Try.pinned (OpenSpec.ofChange capsOpensSpec)

/-- ITS FALSE NEIGHBOUR: 'it returns false'. Refute it at one input. -/
def capsOpensWrong : ChangeSpec := { name := "capsOpens", fn := fun _ => fun
  | [d] => { results := [.lit (.bool false)], args := [d] }
  | _ => none }
def CapsOpensWrongFalsely : Prop := capsOpensRow.holds Try.pinned (OpenSpec.ofChange capsOpensWrong)

/-- 'beguinagelaw01.DiskCuts': WHATEVER THE INPUT: true; the input reads as it did. -/
def diskCutsSpec : ChangeSpec := { name := "diskCuts", fn := fun _ => fun
  | [d1, d2, d3] => { results := [.lit (.bool true)], args := [d1, d2, d3] }
  | _ => none }
def diskCutsRow : OpenClaim := { program := "ytkdjjkcoonlddaa", sum := "d4c92e9135a46352bacf56a8b2cf32779a2a574983aae4457810a56cb7a96fb0", func := "beguinage/beguinagelaw01.DiskCuts", spec := "diskCuts", apart := false }
def DiskCutsSaid : Prop := diskCutsRow.holds Try.pinned (OpenSpec.ofChange diskCutsSpec)

/-- ITS FALSE NEIGHBOUR: 'it returns false'. Refute it at one input. -/
def diskCutsWrong : ChangeSpec := { name := "diskCuts", fn := fun _ => fun
  | [d1, d2, d3] => { results := [.lit (.bool false)], args := [d1, d2, d3] }
  | _ => none }
def DiskCutsWrongFalsely : Prop := diskCutsRow.holds Try.pinned (OpenSpec.ofChange diskCutsWrong)

/-- 'beguinagelaw01.DiskNone': WHATEVER THE INPUT: true; the input reads as it did. -/
def diskNoneSpec : ChangeSpec := { name := "diskNone", fn := fun _ => fun
  | [d1, d2, d3, d4] => { results := [.lit (.bool true)], args := [d1, d2, d3, d4] }
  | _ => none }
def diskNoneRow : OpenClaim := { program := "ytkdjjkcoonlddaa", sum := "d4c92e9135a46352bacf56a8b2cf32779a2a574983aae4457810a56cb7a96fb0", func := "beguinage/beguinagelaw01.DiskNone", spec := "diskNone", apart := false }
def DiskNoneSaid : Prop := diskNoneRow.holds Try.pinned (OpenSpec.ofChange diskNoneSpec)

/-- ITS FALSE NEIGHBOUR: 'it returns false'. Refute it at one input. -/
def diskNoneWrong : ChangeSpec := { name := "diskNone", fn := fun _ => fun
  | [d1, d2, d3, d4] => { results := [.lit (.bool false)], args := [d1, d2, d3, d4] }
  | _ => none }
def DiskNoneWrongFalsely : Prop := diskNoneRow.holds Try.pinned (OpenSpec.ofChange diskNoneWrong)

/-- 'beguinagelaw01.DiskOwners': WHATEVER THE INPUT: true; the input reads as it did. -/
def diskOwnersSpec : ChangeSpec := { name := "diskOwners", fn := fun _ => fun
  | [d1, d2, d3, d4] => { results := [.lit (.bool true)], args := [d1, d2, d3, d4] }
  | _ => none }
def diskOwnersRow : OpenClaim := { program := "ytkdjjkcoonlddaa", sum := "d4c92e9135a46352bacf56a8b2cf32779a2a574983aae4457810a56cb7a96fb0", func := "beguinage/beguinagelaw01.DiskOwners", spec := "diskOwners", apart := false }
def DiskOwnersSaid : Prop := diskOwnersRow.holds Try.pinned (OpenSpec.ofChange diskOwnersSpec)

/-- ITS FALSE NEIGHBOUR: 'it returns false'. Refute it at one input. -/
def diskOwnersWrong : ChangeSpec := { name := "diskOwners", fn := fun _ => fun
  | [d1, d2, d3, d4] => { results := [.lit (.bool false)], args := [d1, d2, d3, d4] }
  | _ => none }
def DiskOwnersWrongFalsely : Prop := diskOwnersRow.holds Try.pinned (OpenSpec.ofChange diskOwnersWrong)

/-- 'beguinagelaw01.DiskFlushes': WHATEVER THE INPUT: true; the input reads as it did. -/
def diskFlushesSpec : ChangeSpec := { name := "diskFlushes", fn := fun _ => fun
  | [d1, d2, d3] => { results := [.lit (.bool true)], args := [d1, d2, d3] }
  | _ => none }
def diskFlushesRow : OpenClaim := { program := "ytkdjjkcoonlddaa", sum := "d4c92e9135a46352bacf56a8b2cf32779a2a574983aae4457810a56cb7a96fb0", func := "beguinage/beguinagelaw01.DiskFlushes", spec := "diskFlushes", apart := false }
def DiskFlushesSaid : Prop := diskFlushesRow.holds Try.pinned (OpenSpec.ofChange diskFlushesSpec)

/-- ITS FALSE NEIGHBOUR: 'it returns false'. Refute it at one input. -/
def diskFlushesWrong : ChangeSpec := { name := "diskFlushes", fn := fun _ => fun
  | [d1, d2, d3] => { results := [.lit (.bool false)], args := [d1, d2, d3] }
  | _ => none }
def DiskFlushesWrongFalsely : Prop := diskFlushesRow.holds Try.pinned (OpenSpec.ofChange diskFlushesWrong)

/- THE SECOND FORM. 'bulk': how many values and letters a reading holds, each counted each time it is reached (what is shared counts as often as it is met; a slice's spare places count too). A statement '..UptoSaid' is the law's where the arguments, and the package variables that the reading takes, are together of bulk at most 1048576: NARROWER than '..Said'. Prove '..Said' where nothing that the law and all that it calls make is longer than what came in: it says more and counts as full. Else prove '..UptoSaid'. A law counts once. -/
mutual
def uptoBulk {H : Type} : DataW H → Nat
  | .lit (.string bytes) => bytes.length + 1
  | .lit _ => 1
  | .nil => 1
  | .ptr d => uptoBulk d + 1
  | .slice elems spare => uptoBulkAll elems + uptoBulkAll spare + 1
  | .agg parts => uptoBulkAll parts + 1
  | .iface _ d => uptoBulk d + 1
  | .map entries => uptoBulkEntries entries + 1
  | .held _ => 1
def uptoBulkAll {H : Type} : List (DataW H) → Nat
  | [] => 0
  | d :: r => uptoBulk d + uptoBulkAll r
def uptoBulkEntries {H : Type} : List (Lit × DataW H) → Nat
  | [] => 0
  | x :: r => uptoBulkEntry x + uptoBulkEntries r
def uptoBulkEntry {H : Type} : Lit × DataW H → Nat
  | (.string bytes, d) => bytes.length + uptoBulk d + 1
  | (_, d) => uptoBulk d + 1
 end
def uptoSmall : (H : Type) → List (DataW H) → Bool := fun _ ds => decide (uptoBulkAll ds ≤ 1048576)
def OpenSpec.upto (s : _root_.Go.ChangeSpec) : _root_.Go.OpenSpec := { _root_.Go.OpenSpec.ofChange s with cond := some uptoSmall }

/-- 'beguinagelaw12.PoolAll', WHERE WHAT IT READS IS OF BULK AT MOST 1048576: true; the input reads as it did. -/
def poolAllUptoRow : OpenClaim := { program := "ytkdjjkcoonlddaa", sum := "d4c92e9135a46352bacf56a8b2cf32779a2a574983aae4457810a56cb7a96fb0", func := "beguinage/beguinagelaw12.PoolAll", spec := "poolAll", apart := false, narrowed := true }
def PoolAllUptoSaid : Prop := poolAllUptoRow.holds Try.pinned (OpenSpec.upto poolAllSpec)

/-- 'beguinagelaw12.PoolApart', WHERE WHAT IT READS IS OF BULK AT MOST 1048576: true; the input reads as it did. -/
def poolApartUptoRow : OpenClaim := { program := "ytkdjjkcoonlddaa", sum := "d4c92e9135a46352bacf56a8b2cf32779a2a574983aae4457810a56cb7a96fb0", func := "beguinage/beguinagelaw12.PoolApart", spec := "poolApart", apart := false, narrowed := true }
def PoolApartUptoSaid : Prop := poolApartUptoRow.holds Try.pinned (OpenSpec.upto poolApartSpec)

/-- 'beguinagelaw12.PoolOrder', WHERE WHAT IT READS IS OF BULK AT MOST 1048576: true; the input reads as it did. -/
def poolOrderUptoRow : OpenClaim := { program := "ytkdjjkcoonlddaa", sum := "d4c92e9135a46352bacf56a8b2cf32779a2a574983aae4457810a56cb7a96fb0", func := "beguinage/beguinagelaw12.PoolOrder", spec := "poolOrder", apart := false, narrowed := true }
def PoolOrderUptoSaid : Prop := poolOrderUptoRow.holds Try.pinned (OpenSpec.upto poolOrderSpec)

/-- 'beguinagelaw12.PoolMore', WHERE WHAT IT READS IS OF BULK AT MOST 1048576: true; the input reads as it did. -/
def poolMoreUptoRow : OpenClaim := { program := "ytkdjjkcoonlddaa", sum := "d4c92e9135a46352bacf56a8b2cf32779a2a574983aae4457810a56cb7a96fb0", func := "beguinage/beguinagelaw12.PoolMore", spec := "poolMore", apart := false, narrowed := true }
def PoolMoreUptoSaid : Prop := poolMoreUptoRow.holds Try.pinned (OpenSpec.upto poolMoreSpec)

/-- 'beguinagelaw23.CapsFull', WHERE WHAT IT READS IS OF BULK AT MOST 1048576: true; the input reads as it did. -/
def capsFullUptoRow : OpenClaim := { program := "ytkdjjkcoonlddaa", sum := "d4c92e9135a46352bacf56a8b2cf32779a2a574983aae4457810a56cb7a96fb0", func := "beguinage/beguinagelaw23.CapsFull", spec := "capsFull", apart := false, narrowed := true }
def CapsFullUptoSaid : Prop := capsFullUptoRow.holds Try.pinned (OpenSpec.upto capsFullSpec)

/-- 'beguinagelaw23.CapsApart', WHERE WHAT IT READS IS OF BULK AT MOST 1048576: true; the input reads as it did. -/
def capsApartUptoRow : OpenClaim := { program := "ytkdjjkcoonlddaa", sum := "d4c92e9135a46352bacf56a8b2cf32779a2a574983aae4457810a56cb7a96fb0", func := "beguinage/beguinagelaw23.CapsApart", spec := "capsApart", apart := false, narrowed := true }
def CapsApartUptoSaid : Prop := capsApartUptoRow.holds Try.pinned (OpenSpec.upto capsApartSpec)

/-- 'beguinagelaw23.CapsPlays', WHERE WHAT IT READS IS OF BULK AT MOST 1048576: true; the input reads as it did. -/
def capsPlaysUptoRow : OpenClaim := { program := "ytkdjjkcoonlddaa", sum := "d4c92e9135a46352bacf56a8b2cf32779a2a574983aae4457810a56cb7a96fb0", func := "beguinage/beguinagelaw23.CapsPlays", spec := "capsPlays", apart := false, narrowed := true }
def CapsPlaysUptoSaid : Prop := capsPlaysUptoRow.holds Try.pinned (OpenSpec.upto capsPlaysSpec)

/-- 'beguinagelaw23.CapsOpens', WHERE WHAT IT READS IS OF BULK AT MOST 1048576: true; the input reads as it did. -/
def capsOpensUptoRow : OpenClaim := { program := "ytkdjjkcoonlddaa", sum := "d4c92e9135a46352bacf56a8b2cf32779a2a574983aae4457810a56cb7a96fb0", func := "beguinage/beguinagelaw23.CapsOpens", spec := "capsOpens", apart := false, narrowed := true }
def CapsOpensUptoSaid : Prop := capsOpensUptoRow.holds Try.pinned (OpenSpec.upto capsOpensSpec)

/-- 'beguinagelaw01.DiskCuts', WHERE WHAT IT READS IS OF BULK AT MOST 1048576: true; the input reads as it did. -/
def diskCutsUptoRow : OpenClaim := { program := "ytkdjjkcoonlddaa", sum := "d4c92e9135a46352bacf56a8b2cf32779a2a574983aae4457810a56cb7a96fb0", func := "beguinage/beguinagelaw01.DiskCuts", spec := "diskCuts", apart := false, narrowed := true }
def DiskCutsUptoSaid : Prop := diskCutsUptoRow.holds Try.pinned (OpenSpec.upto diskCutsSpec)

/-- 'beguinagelaw01.DiskNone', WHERE WHAT IT READS IS OF BULK AT MOST 1048576: true; the input reads as it did. -/
def diskNoneUptoRow : OpenClaim := { program := "ytkdjjkcoonlddaa", sum := "d4c92e9135a46352bacf56a8b2cf32779a2a574983aae4457810a56cb7a96fb0", func := "beguinage/beguinagelaw01.DiskNone", spec := "diskNone", apart := false, narrowed := true }
def DiskNoneUptoSaid : Prop := diskNoneUptoRow.holds Try.pinned (OpenSpec.upto diskNoneSpec)

/-- 'beguinagelaw01.DiskOwners', WHERE WHAT IT READS IS OF BULK AT MOST 1048576: true; the input reads as it did. -/
def diskOwnersUptoRow : OpenClaim := { program := "ytkdjjkcoonlddaa", sum := "d4c92e9135a46352bacf56a8b2cf32779a2a574983aae4457810a56cb7a96fb0", func := "beguinage/beguinagelaw01.DiskOwners", spec := "diskOwners", apart := false, narrowed := true }
def DiskOwnersUptoSaid : Prop := diskOwnersUptoRow.holds Try.pinned (OpenSpec.upto diskOwnersSpec)

/-- 'beguinagelaw01.DiskFlushes', WHERE WHAT IT READS IS OF BULK AT MOST 1048576: true; the input reads as it did. -/
def diskFlushesUptoRow : OpenClaim := { program := "ytkdjjkcoonlddaa", sum := "d4c92e9135a46352bacf56a8b2cf32779a2a574983aae4457810a56cb7a96fb0", func := "beguinage/beguinagelaw01.DiskFlushes", spec := "diskFlushes", apart := false, narrowed := true }
def DiskFlushesUptoSaid : Prop := diskFlushesUptoRow.holds Try.pinned (OpenSpec.upto diskFlushesSpec)

end Rows
end Go.Proofs.Ytkdjjkcoonlddaa
