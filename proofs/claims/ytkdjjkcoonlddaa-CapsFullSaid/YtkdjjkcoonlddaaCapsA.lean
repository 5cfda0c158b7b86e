/- caps.Table: what a table is in memory, and the contracts of its methods. -/
import Derived.Test.YtkdjjkcoonlddaaCapsR
import Derived.Test.YtkdjjkcoonlddaaWLast
import Derived.Test.YtkdjjkcoonlddaaWMore
import Derived.Laws.Rows
import Derived.Outline
import Derived.BigQuiet
import Derived.Deep.QuietTactic
namespace Go.Proofs.Ytkdjjkcoonlddaa.Caps
open Go.RowKit Go.Maps Go.Proofs.YtkdjjkcoonlddaaW.PrintWords Go.Proofs.YtkdjjkcoonlddaaW.PrintLast Go.Proofs.YtkdjjkcoonlddaaW.PrintMore
open Go.Proofs.Ytkdjjkcoonlddaa.Aid
set_option linter.unusedVariables false
set_option linter.unusedSimpArgs false

/-- The table in block g, its map in block b: what all handles begin with, the last one's number, the open ones. -/
structure Tab (w : World) (g b : Nat) (F last : Int) (S : List H3) : Prop where
  blk : w.heap[g]? = some (.cells #[.int .i64 F, .int .i64 last, .map (some b)] 80 (0, 0))
  rep : ∃ D, w.ownsMap Try.prog 3 holdR b S.length D ∧ Rep D S
  ne : g ≠ b
/-- Of what was there nothing has turned but blocks g and b. -/
structure Fr (w w' : World) (g b : Nat) : Prop where
  os : w'.os = w.os
  tape : w'.tape = w.tape
  output : w'.output = w.output
  size : w.heap.size ≤ w'.heap.size
  block : ∀ i, i < w.heap.size → i ≠ g → i ≠ b → w'.heap[i]? = w.heap[i]?
section
variable {w w' w'' : World} {g b : Nat} {F last : Int} {S : List H3}
theorem Fr.refl (w : World) (g b : Nat) : Fr w w g b := ⟨rfl, rfl, rfl, Nat.le_refl _, fun _ _ _ _ => rfl⟩
theorem Fr.trans (h : Fr w w' g b) (k : Fr w' w'' g b) : Fr w w'' g b :=
  ⟨k.os.trans h.os, k.tape.trans h.tape, k.output.trans h.output, Nat.le_trans h.size k.size, fun i hi h1 h2 => (k.block i (Nat.lt_of_lt_of_le hi h.size) h1 h2).trans (h.block i hi h1 h2)⟩
theorem Fr.of_grown {row : Option Nat} (hg : w.grownBy w' row) (hr : row = some g ∨ row = some b ∨ row = none) : Fr w w' g b :=
  ⟨hg.os, hg.tape, hg.output, hg.size, fun i hi h1 h2 => hg.block i hi (fun e => by rcases hr with rfl | rfl | rfl <;> simp at e <;> omega)⟩
theorem Fr.of_below (hb : Below w.heap.size w w') : Fr w w' g b := ⟨hb.os, hb.tape, hb.output, hb.size, fun i hi _ _ => hb.block i hi⟩
theorem Fr.below {B : Nat} {w0 : World} (h : Fr w w' g b) (hb : Below B w0 w) (h1 : B ≤ g) (h2 : B ≤ b) (h3 : B ≤ w.heap.size) : Below B w0 w' :=
  ⟨h.os.trans hb.os, h.tape.trans hb.tape, h.output.trans hb.output, Nat.le_trans hb.size h.size, fun i hi => (h.block i (by omega) (by omega) (by omega)).trans (hb.block i hi)⟩
theorem Tab.glt (h : Tab w g b F last S) : g < w.heap.size := (Array.getElem?_eq_some_iff.1 h.blk).1
theorem Tab.blt (h : Tab w g b F last S) : b < w.heap.size := by obtain ⟨D, hD, _⟩ := h.rep; exact hD.lt
theorem owns_kept {P : Program} {k : TypeId} {R : Value → Option (DataW Nat × List MemPlace)} {n : Nat} {D : DataW Nat} (h : w.ownsMap P k R b n D) (he : w'.heap[b]? = w.heap[b]?) : w'.ownsMap P k R b n D := by
  obtain ⟨es, c, hb, r⟩ := h
  exact ⟨es, c, he.trans hb, r⟩
theorem Tab.kept (h : Tab w g b F last S) (h1 : w'.heap[g]? = w.heap[g]?) (h2 : w'.heap[b]? = w.heap[b]?) : Tab w' g b F last S :=
  ⟨h1.trans h.blk, by obtain ⟨D, hD, r⟩ := h.rep; exact ⟨D, owns_kept hD h2, r⟩, h.ne⟩
theorem Tab.below (h : Tab w g b F last S) (hb : Below w.heap.size w w') : Tab w' g b F last S := h.kept (hb.block g h.glt) (hb.block b h.blt)
theorem Tab.fr {g' b' : Nat} (h : Tab w g b F last S) (hf : Fr w w' g' b') (h1 : g ≠ g') (h2 : g ≠ b') (h3 : b ≠ g') (h4 : b ≠ b') : Tab w' g b F last S := h.kept (hf.block g h.glt h1 h2) (hf.block b h.blt h3 h4)
theorem owns_size {n : Nat} {D : DataW Nat} (h : w.ownsMap Try.prog 3 holdR b n D) : w.ownsMap Try.prog 3 holdR b (Maps.size D) D := by
  obtain ⟨es, c, hb, F, hs, rfl⟩ := h
  refine ⟨es, c, hb, F, ?_, rfl⟩
  show es.size ≤ ((es.toList.map _).foldr DataW.insert []).length
  rw [length_sorted]; simp
end
theorem zero82 (w : World) : (zeroValue 82).run Try.prog w = .ok (.agg #[.int .i64 0, .int .i64 0]) w := by kernel_rfl

set_option maxHeartbeats 1000000 in
theorem len_calls (g b : Nat) (F last : Int) (S : List H3) (w : World) (h : Tab w g b F last S) :
    Calls Try.prog 26 #[.pointer (some ⟨g, 0, none⟩)] w fun e w' => e = .returned (.int .i64 (S.length : Int)) ∧ w = w' := by
  obtain ⟨D, hD, r⟩ := h.rep
  have hc : w.cell? ⟨g, 2, none⟩ = some (.map (some b)) := by rw [cell_of_row w g 2 _ _ _ h.blk]; rfl
  have HS := Aside0.mk r.size_
  have HD := Aside0.mk hD
  clear h hD r
  go_enter Try.func26, Try.ntmps26
  go_wp2_with (first
    | (at_len; refine wpList_len_own _ rfl _ _ rfl 3 82 Try.underlying78 holdR b S.length D rfl HD.out ?_)
    | go_in)
  go_ret
  exact ⟨by rw [HS.out]; rfl, rfl⟩

set_option maxHeartbeats 1000000 in
theorem get_calls (g b : Nat) (F last : Int) (S : List H3) (h : Int) (w : World) (ht : Tab w g b F last S) (hw : (Lit.int .i64 h).wf = true) :
    Calls Try.prog 28 #[.pointer (some ⟨g, 0, none⟩), .int .i64 h] w fun e w' =>
      e = .returned (match lookH S h with | some p => .tuple #[.int .i64 p.2.1, .int .i64 p.2.2, .int .i64 0] | none => .tuple #[.int .i64 0, .int .i64 0, .int .i64 3]) ∧ Below w.heap.size w w' := by
  obtain ⟨D, hD, r⟩ := ht.rep
  have hc : w.cell? ⟨g, 2, none⟩ = some (.map (some b)) := by rw [cell_of_row w g 2 _ _ _ ht.blk]; rfl
  have hh := r.has_ h
  have HA := Aside0.mk (r.at_ h)
  have HD := Aside0.mk hD
  clear ht hD r
  cases hl : lookH S h with
  | none =>
    rw [hl] at hh
    replace hh : Maps.has D (.int .i64 h) = false := hh
    go_enter Try.func28, Try.ntmps28
    go_wp2_with (first
      | (at_lookup; refine wpList_lookup_own_ok _ rfl _ _ 78 rfl 3 82 key3 Try.underlying78 holdR (zero82 _) _ [] (holdR_mk 0 0) b S.length D rfl HD.out _ _ rfl (keyOf_int_mk Try.underlying3 hw) ?_; intro v ps hv; obtain ⟨a1, a2, rfl, _⟩ := holdR_inv hv; clear hv)
      | go_in)
    go_ret3
    exact ⟨rfl, (Below.refl _ _).alloc (Nat.le_refl _) _⟩
  | some p =>
    rw [hl] at hh
    replace hh : Maps.has D (.int .i64 h) = true := hh
    rw [hl] at HA
    obtain ⟨p1, p2, p3⟩ := p
    go_enter Try.func28, Try.ntmps28
    go_wp2_with (first
      | (at_lookup; refine wpList_lookup_own_ok _ rfl _ _ 78 rfl 3 82 key3 Try.underlying78 holdR (zero82 _) _ [] (holdR_mk 0 0) b S.length D rfl HD.out _ _ rfl (keyOf_int_mk Try.underlying3 hw) ?_; intro v ps hv; rw [HA.out] at hv; obtain ⟨a1, a2, rfl, he⟩ := holdR_inv hv; injection he with he _; obtain ⟨rfl, rfl⟩ := hd_inj he; clear hv he)
      | go_in)
    go_quiet (fail)
    go_wp2
    go_ret3
    exact ⟨rfl, pw_below_drewN ((Below.refl _ _).alloc (Nat.le_refl _) _) _⟩

set_option maxHeartbeats 1000000 in
theorem close_no (g b : Nat) (F last : Int) (S : List H3) (h : Int) (w : World) (ht : Tab w g b F last S) (hw : (Lit.int .i64 h).wf = true) (hl : lookH S h = none) :
    Calls Try.prog 27 #[.pointer (some ⟨g, 0, none⟩), .int .i64 h] w fun e w' => e = .returned (.int .i64 3) ∧ Below w.heap.size w w' := by
  obtain ⟨D, hD, r⟩ := ht.rep
  have hc : w.cell? ⟨g, 2, none⟩ = some (.map (some b)) := by rw [cell_of_row w g 2 _ _ _ ht.blk]; rfl
  have hh := r.has_ h
  have HD := Aside0.mk hD
  clear ht hD r
  rw [hl] at hh
  replace hh : Maps.has D (.int .i64 h) = false := hh
  clear hl
  go_enter Try.func27, Try.ntmps27
  go_wp2_with (first
    | (at_lookup; refine wpList_lookup_own_ok _ rfl _ _ 78 rfl 3 82 key3 Try.underlying78 holdR (zero82 _) _ [] (holdR_mk 0 0) b S.length D rfl HD.out _ _ rfl (keyOf_int_mk Try.underlying3 hw) ?_; intro v ps hv; obtain ⟨a1, a2, rfl, _⟩ := holdR_inv hv; clear hv)
    | go_in)
  go_ret
  exact ⟨rfl, (Below.refl _ _).alloc (Nat.le_refl _) _⟩
end Go.Proofs.Ytkdjjkcoonlddaa.Caps
