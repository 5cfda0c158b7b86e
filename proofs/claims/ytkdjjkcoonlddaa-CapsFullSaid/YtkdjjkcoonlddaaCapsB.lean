/- caps.Table: the contracts of New, Open, Close, Opens and House. -/
import Derived.Test.YtkdjjkcoonlddaaCapsA
namespace Go.Proofs.Ytkdjjkcoonlddaa.Caps
open Go.RowKit Go.Maps Go.Proofs.YtkdjjkcoonlddaaW.PrintWords Go.Proofs.YtkdjjkcoonlddaaW.PrintLast Go.Proofs.YtkdjjkcoonlddaaW.PrintMore
open Go.Proofs.Ytkdjjkcoonlddaa.Aid
set_option linter.unusedVariables false
set_option linter.unusedSimpArgs false

theorem turned_fr {w w' : World} {b : Nat} (h : w.mapTurned w' b) (g : Nat) : Fr w w' g b := Fr.of_grown h.grown (Or.inr (Or.inl rfl))

set_option maxHeartbeats 1000000 in
theorem close_yes (g b : Nat) (F last : Int) (S : List H3) (h : Int) (w : World) (ht : Tab w g b F last S) (hw : (Lit.int .i64 h).wf = true) (hl : (lookH S h).isSome = true) :
    Calls Try.prog 27 #[.pointer (some ⟨g, 0, none⟩), .int .i64 h] w fun e w' => e = .returned (.int .i64 0) ∧ Tab w' g b F last (without S h) ∧ Fr w w' g b := by
  have HT := Aside0.mk ht
  obtain ⟨D, hD, r⟩ := ht.rep
  have hc : w.cell? ⟨g, 2, none⟩ = some (.map (some b)) := by rw [cell_of_row w g 2 _ _ _ ht.blk]; rfl
  have hglt := ht.glt
  have hh := r.has_ h
  have HD := Aside0.mk hD
  have HR := Aside0.mk r
  clear ht hD r
  rw [hl] at hh
  replace hh : Maps.has D (.int .i64 h) = true := hh
  have HL := Aside0.mk hl
  clear hl
  go_enter Try.func27, Try.ntmps27
  go_wp2_with (first
    | (at_lookup; refine wpList_lookup_own_ok _ rfl _ _ 78 rfl 3 82 key3 Try.underlying78 holdR (zero82 _) _ [] (holdR_mk 0 0) b S.length D rfl HD.out _ _ rfl (keyOf_int_mk Try.underlying3 hw) ?_; intro v ps hv; obtain ⟨a1, a2, rfl, _⟩ := holdR_inv hv; clear hv)
    | (at_delete; refine wpList_delete_own _ rfl _ _ 78 3 rfl 82 key3 Try.underlying78 holdR b S.length D rfl (HD.out.alloc _) _ _ rfl (keyOf_int_mk Try.underlying3 hw) ?_; intro w1 hown1 hturn)
    | go_in)
  go_ret
  have hf : Fr w w1 g b := (Fr.of_below ((Below.refl _ _).alloc (Nat.le_refl _) _)).trans (turned_fr hturn g)
  refine ⟨rfl, ⟨?_, ?_, HT.out.ne⟩, hf⟩
  · have hg1 := hturn.grown.block g (by simp; omega) (by simp; exact HT.out.ne)
    rw [hg1]
    exact (heap_alloc_old w _ HT.out.glt).trans HT.out.blk
  · have hrep := rep_del HR.out (HD.out.tidy key3) h HL.out
    refine ⟨_, ?_, hrep⟩
    have := owns_size hown1
    rw [hrep.size_] at this
    exact this

set_option maxHeartbeats 1000000 in
theorem open_bad (g : Nat) (n k : Int) (w : World) (h : n < 1 ∨ 255 < n ∨ k < 1 ∨ 7 < k) :
    Calls Try.prog 24 #[.pointer (some ⟨g, 0, none⟩), .int .i64 n, .int .i64 k] w fun e w' => e = .returned (.tuple #[.int .i64 0, .int .i64 1]) ∧ w = w' := by
  by_cases h1 : n < 1
  · clear h
    go_enter Try.func24, Try.ntmps24
    go_wp2
    go_ret2
    exact ⟨rfl, rfl⟩
  · by_cases h2 : 255 < n
    · clear h
      go_enter Try.func24, Try.ntmps24
      go_wp2
      go_ret2
      exact ⟨rfl, rfl⟩
    · by_cases h3 : k < 1
      · clear h
        go_enter Try.func24, Try.ntmps24
        go_wp2
        go_ret2
        exact ⟨rfl, rfl⟩
      · have h4 : 7 < k := by omega
        clear h
        go_enter Try.func24, Try.ntmps24
        go_wp2
        go_ret2
        exact ⟨rfl, rfl⟩

set_option maxHeartbeats 1000000 in
theorem open_full (g b : Nat) (F last : Int) (S : List H3) (n k : Int) (w : World) (ht : Tab w g b F last S) (h1 : 1 ≤ n) (h2 : n ≤ 255) (h3 : 1 ≤ k) (h4 : k ≤ 7) (hf : 64 ≤ S.length ∨ 65535 ≤ last) :
    Calls Try.prog 24 #[.pointer (some ⟨g, 0, none⟩), .int .i64 n, .int .i64 k] w fun e w' => e = .returned (.tuple #[.int .i64 0, .int .i64 16]) ∧ w = w' := by
  obtain ⟨D, hD, r⟩ := ht.rep
  have hc : w.cell? ⟨g, 2, none⟩ = some (.map (some b)) := by rw [cell_of_row w g 2 _ _ _ ht.blk]; rfl
  have hc1 : w.cell? ⟨g, 1, none⟩ = some (.int .i64 last) := by rw [cell_of_row w g 1 _ _ _ ht.blk]; rfl
  have hs := r.size_
  have HD := Aside0.mk hD
  clear ht hD r
  obtain ⟨m, hm⟩ : ∃ m, S.length = m := ⟨_, rfl⟩
  rw [hm] at HD hs hf
  clear hm
  by_cases hlen : 64 ≤ m
  · clear hf
    go_enter Try.func24, Try.ntmps24
    go_wp2_with (first
      | (at_len; refine wpList_len_own _ rfl _ _ rfl 3 82 Try.underlying78 holdR b m D rfl HD.out ?_)
      | go_in)
    go_ret2
    exact ⟨rfl, rfl⟩
  · have hl : 65535 ≤ last := by omega
    clear hf
    go_enter Try.func24, Try.ntmps24
    go_wp2_with (first
      | (at_len; refine wpList_len_own _ rfl _ _ rfl 3 82 Try.underlying78 holdR b m D rfl HD.out ?_)
      | go_in)
    go_ret2
    exact ⟨rfl, rfl⟩

set_option maxHeartbeats 2000000 in
theorem open_yes (g b : Nat) (F last : Int) (S : List H3) (n k : Int) (w : World) (ht : Tab w g b F last S) (h1 : 1 ≤ n) (h2 : n ≤ 255) (h3 : 1 ≤ k) (h4 : k ≤ 7) (hlen : S.length < 64) (hl0 : 0 ≤ last) (hl1 : last < 65535)
    (hF0 : 0 ≤ F) (hF1 : F ≤ 4611686018427387904) (hfr : lookH S (F + (last + 1)) = none) :
    Calls Try.prog 24 #[.pointer (some ⟨g, 0, none⟩), .int .i64 n, .int .i64 k] w fun e w' => e = .returned (.tuple #[.int .i64 (F + (last + 1)), .int .i64 0]) ∧ Tab w' g b F (last + 1) (S ++ [(F + (last + 1), n, k)]) ∧ Fr w w' g b := by
  have HT := Aside0.mk ht
  obtain ⟨D, hD, r⟩ := ht.rep
  have hc : w.cell? ⟨g, 2, none⟩ = some (.map (some b)) := by rw [cell_of_row w g 2 _ _ _ ht.blk]; rfl
  have hc1 : w.cell? ⟨g, 1, none⟩ = some (.int .i64 last) := by rw [cell_of_row w g 1 _ _ _ ht.blk]; rfl
  have hf1 : w.frozen? ⟨g, 1, none⟩ = false := frozen_of_row w g 1 _ _ ht.blk
  have hs := r.size_
  have HD := Aside0.mk hD
  have HR := Aside0.mk r
  have HFr := Aside0.mk hfr
  have hW : (w.setCell ⟨g, 1, none⟩ (.int .i64 (last + 1))).heap[g]? = some (.cells #[.int .i64 F, .int .i64 (last + 1), .map (some b)] 80 (0, 0)) := heap_setCell_same w g 1 _ 80 _ ht.blk
  have HW := Aside0.mk hW
  have hd0 : (w.setCell ⟨g, 1, none⟩ (.int .i64 (last + 1))).cell? ⟨g, 0, none⟩ = some (.int .i64 F) := by rw [cell_of_row _ g 0 _ _ _ hW]; rfl
  have hd1 : (w.setCell ⟨g, 1, none⟩ (.int .i64 (last + 1))).cell? ⟨g, 1, none⟩ = some (.int .i64 (last + 1)) := by rw [cell_of_row _ g 1 _ _ _ hW]; rfl
  have hd2 : (w.setCell ⟨g, 1, none⟩ (.int .i64 (last + 1))).cell? ⟨g, 2, none⟩ = some (.map (some b)) := by rw [cell_of_row _ g 2 _ _ _ hW]; rfl
  have HD1 : Aside0 ((w.setCell ⟨g, 1, none⟩ (.int .i64 (last + 1))).ownsMap Try.prog 3 holdR b S.length D) := ⟨hD.setCell (fun e => ht.ne e.symm) _⟩
  have hwf : (Lit.int .i64 (F + (last + 1))).wf = true := bd_wf (by omega) (by omega)
  have hnm : S.length < maxLen := by unfold maxLen; omega
  have hlt64 : ¬ 64 ≤ S.length := by omega
  clear ht hD r hfr hW
  obtain ⟨m, hm⟩ : ∃ m, S.length = m := ⟨_, rfl⟩
  have HM := Aside0.mk hm
  rw [hm] at HD HD1 hs hlen hnm hlt64
  clear hm
  have hgrow : Fr w (w.setCell ⟨g, 1, none⟩ (.int .i64 (last + 1))) g b := ⟨rfl, rfl, rfl, by simp [World.setCell], fun i _ hi _ => heap_setCell_other w ⟨g, 1, none⟩ i _ hi⟩
  have HG := Aside0.mk hgrow
  clear hgrow
  go_enter Try.func24, Try.ntmps24
  go_wp2_with (first
    | (at_len; refine wpList_len_own _ rfl _ _ rfl 3 82 Try.underlying78 holdR b m D rfl HD.out ?_)
    | go_in)
  go_quiet (fail)
  go_wp2_with (first
    | (at_mapUpdate; refine wpList_mapUpdate_own _ rfl _ _ _ 78 rfl 3 82 key3 Try.underlying78 holdR b m D rfl HD1.out hnm _ _ _ rfl rfl (keyOf_int_mk Try.underlying3 hwf) (hd n k) [] (holdR_mk n k) ?_; intro w1 hown1 hgr1)
    | go_in)
  go_ret2
  have hf2 : Fr (w.setCell ⟨g, 1, none⟩ (.int .i64 (last + 1))) w1 g b := Fr.of_grown ⟨hgr1.os, hgr1.tape, hgr1.output, hgr1.size, hgr1.block⟩ (Or.inr (Or.inl rfl))
  refine ⟨rfl, ⟨?_, ?_, HT.out.ne⟩, HG.out.trans hf2⟩
  · rw [← HW.out]
    exact hgr1.block g (by simp [World.setCell]; exact HT.out.glt) (by simp; exact HT.out.ne)
  · have hrep := rep_put HR.out (HD.out.tidy key3) (F + (last + 1)) n k HFr.out
    refine ⟨_, ?_, hrep⟩
    have := owns_size hown1
    rw [hrep.size_] at this
    exact this
end Go.Proofs.Ytkdjjkcoonlddaa.Caps
