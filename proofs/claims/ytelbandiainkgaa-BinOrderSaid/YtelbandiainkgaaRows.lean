/-
  No cell of these rows narrows 'for every input' (looked for: loops, veiled, ifaces, maps, wideKeys, modest, calm, conditions, laid).
  DERIVED. THE GIVEN ROWS OF THIS SEAT. 2 by the template 'for every input the law returns true; each argument reads behind the call as it read before'; 0 by the template 'total and deterministic' (their statements: YtelbandiainkgaaTotals.lean).
  GIVEN WITH THE SEED: the statements are not yours to turn. If you find one false, say at which input.
  Laid BY PROGRAM, IN A SANDBOX (cutbox-rows.mjs): the forced cells as the released guide's own fill.sh prints them over the translation 4a7f8e3810baaa21… (all of the seat's roots in one cut). By AI agents, Wed Nov 11 2026. No macro, syntax, notation, axiom, sorry.
-/
import Derived.Test.YtelbandiainkgaaChecked
import GoSem.Claim
import GoSem.ClaimJoined
import GoSem.ClaimMapViews
import Derived.JoinedTies
import Derived.KernelRfl
namespace Go.Proofs.Ytelbandiainkgaa
/- THE CELL 'sum', in the pinned program and in every row, IS THE sha256 OF THE DUMP (.gsa) THAT YtelbandiainkgaaProg.lean LOADS. Nothing in Lean hashes anything: it is a label: what it is worth is what the hold of that sum in a sandbox is worth. -/
noncomputable def Try.pinned : Pinned := { name := "ytelbandiainkgaa", sum := "4a7f8e3810baaa2158a56d71295a605e63921833cf7c61bb01b7e7ac006f110c", checked := Try.checked }
namespace Rows
def none {H : Type} : Left H := { results := [], args := [] }

/-- 'beguinagelaw03.BinOrder': WHATEVER THE INPUT: true; the input reads as it did. -/
def binOrderSpec : ChangeSpec := { name := "binOrder", fn := fun _ => fun
  | [d1, d2] => { results := [.lit (.bool true)], args := [d1, d2] }
  | _ => none }
def binOrderRow : OpenClaim := { program := "ytelbandiainkgaa", sum := "4a7f8e3810baaa2158a56d71295a605e63921833cf7c61bb01b7e7ac006f110c", func := "beguinage/beguinagelaw03.BinOrder", spec := "binOrder", apart := false }
def BinOrderSaid : Prop := binOrderRow.holds Try.pinned (OpenSpec.ofChange binOrderSpec)

/-- ITS FALSE NEIGHBOUR: 'it returns false'. Refute it at one input. -/
def binOrderWrong : ChangeSpec := { name := "binOrder", fn := fun _ => fun
  | [d1, d2] => { results := [.lit (.bool false)], args := [d1, d2] }
  | _ => none }
def BinOrderWrongFalsely : Prop := binOrderRow.holds Try.pinned (OpenSpec.ofChange binOrderWrong)

/-- 'beguinagelaw03.BinPads': WHATEVER THE INPUT: true; the input reads as it did. -/
def binPadsSpec : ChangeSpec := { name := "binPads", fn := fun _ => fun
  | [d1, d2, d3] => { results := [.lit (.bool true)], args := [d1, d2, d3] }
  | _ => none }
def binPadsRow : OpenClaim := { program := "ytelbandiainkgaa", sum := "4a7f8e3810baaa2158a56d71295a605e63921833cf7c61bb01b7e7ac006f110c", func := "beguinage/beguinagelaw03.BinPads", spec := "binPads", inPlace := ["internal/bytealg.IndexByteString", "internal/abi.NoEscape", "internal/bytealg.MakeNoZero"], apart := false }
def BinPadsSaid : Prop := binPadsRow.holds Try.pinned (OpenSpec.ofChange binPadsSpec)

/-- ITS FALSE NEIGHBOUR: 'it returns false'. Refute it at one input. -/
def binPadsWrong : ChangeSpec := { name := "binPads", fn := fun _ => fun
  | [d1, d2, d3] => { results := [.lit (.bool false)], args := [d1, d2, d3] }
  | _ => none }
def BinPadsWrongFalsely : Prop := binPadsRow.holds Try.pinned (OpenSpec.ofChange binPadsWrong)

/- THE SECOND FORM. 'bulk': how many values and letters a reading holds, each counted each time it is reached (what is shared counts as often as it is met; a slice's spare places count too). A statement '..UptoSaid' is the law's where the arguments, and the package variables that the reading takes, are together of bulk at most 1048576: NARROWER than '..Said'. Prove '..Said' where nothing that the law and all that it calls make is longer than what came in: it says more and counts as full. Else prove '..UptoSaid'. A law counts once. -/
mutual
def uptoBulk {H : Type} : DataW H → Nat
  | .lit (.string bytes) => bytes.length + 1
  | .lit _ => 1
  | .nil => 1
  | .ptr d => uptoBulk d + 1
  | .slice elems spare => uptoBulkAll elems + uptoBulkAll spare + 1
  | .agg parts => uptoBulkAll parts + 1
  | .iface _ d => uptoBulk d + 1
  | .map entries => uptoBulkEntries entries + 1
  | .held _ => 1
def uptoBulkAll {H : Type} : List (DataW H) → Nat
  | [] => 0
  | d :: r => uptoBulk d + uptoBulkAll r
def uptoBulkEntries {H : Type} : List (Lit × DataW H) → Nat
  | [] => 0
  | x :: r => uptoBulkEntry x + uptoBulkEntries r
def uptoBulkEntry {H : Type} : Lit × DataW H → Nat
  | (.string bytes, d) => bytes.length + uptoBulk d + 1
  | (_, d) => uptoBulk d + 1
 end
def uptoSmall : (H : Type) → List (DataW H) → Bool := fun _ ds => decide (uptoBulkAll ds ≤ 1048576)
def OpenSpec.upto (s : _root_.Go.ChangeSpec) : _root_.Go.OpenSpec := { _root_.Go.OpenSpec.ofChange s with cond := some uptoSmall }

/-- 'beguinagelaw03.BinOrder', WHERE WHAT IT READS IS OF BULK AT MOST 1048576: true; the input reads as it did. -/
def binOrderUptoRow : OpenClaim := { program := "ytelbandiainkgaa", sum := "4a7f8e3810baaa2158a56d71295a605e63921833cf7c61bb01b7e7ac006f110c", func := "beguinage/beguinagelaw03.BinOrder", spec := "binOrder", apart := false, narrowed := true }
def BinOrderUptoSaid : Prop := binOrderUptoRow.holds Try.pinned (OpenSpec.upto binOrderSpec)

/-- 'beguinagelaw03.BinPads', WHERE WHAT IT READS IS OF BULK AT MOST 1048576: true; the input reads as it did. -/
def binPadsUptoRow : OpenClaim := { program := "ytelbandiainkgaa", sum := "4a7f8e3810baaa2158a56d71295a605e63921833cf7c61bb01b7e7ac006f110c", func := "beguinage/beguinagelaw03.BinPads", spec := "binPads", inPlace := ["internal/bytealg.IndexByteString", "internal/abi.NoEscape", "internal/bytealg.MakeNoZero"], apart := false, narrowed := true }
def BinPadsUptoSaid : Prop := binPadsUptoRow.holds Try.pinned (OpenSpec.upto binPadsSpec)

end Rows
end Go.Proofs.Ytelbandiainkgaa
