/- Plain lemmas: a part's block is taken back. -/
import Derived.Test.YtbdghlneiblkcaaImapD
import Derived.Test.YtbdghlneiblkcaaSpanPtr
namespace Go.Proofs.Ytbdghlneiblkcaa.Imap
open Go.RowKit Go.Proofs.YtbdghlneiblkcaaW.PrintWords Go.Proofs.YtbdghlneiblkcaaW.PrintLast Go.Proofs.YtbdghlneiblkcaaW.PrintMore
open Go.Proofs.Ytbdghlneiblkcaa.Aid Go.Proofs.Ytbdghlneiblkcaa.PSpan
set_option linter.unusedVariables false
set_option linter.unusedSimpArgs false

/-- What a map's numbers are: sectors, and no node 0. -/
def GoodL (L : List Int) : Prop := L.length = 256 ∧ L.getD 0 0 = 0 ∧ ∀ n, n < 256 → 0 ≤ L.getD n 0 ∧ L.getD n 0 < 16384
theorem good_zero : GoodL Z256 := ⟨Z256_len, Z256_at 0, fun n hn => by rw [Z256_at]; omega⟩
theorem good_set {L : List Int} (h : GoodL L) (n : Nat) (v : Int) (h1 : 1 ≤ n) (h2 : 0 ≤ v) (h3 : v < 16384) : GoodL (L.set n v) := by
  refine ⟨by rw [List.length_set]; exact h.1, ?_, fun m hm => ?_⟩
  · rw [set_at _ _ _ _ h.1 (by omega), if_neg (by omega)]; exact h.2.1
  · rw [set_at _ _ _ _ h.1 hm]
    by_cases e : n = m
    · rw [if_pos e]; omega
    · rw [if_neg e]; exact h.2.2 m hm
theorem part_at (L : List Int) (p i : Nat) (hi : i < 64) : (partF L p).getD i 0 = L.getD (64 * p + i) 0 := by
  unfold partF
  rw [List.getD_eq_getElem?_getD, List.getElem?_take, if_pos hi, List.getElem?_drop, List.getD_eq_getElem?_getD]
theorem put_bytes (L : List Int) (p : Nat) (hL : L.length = 256) (hp : p < 4) : bytesOf (putF L p) = flat2 (partF L p) ++ List.replicate 128 0 := by
  refine bytesOf_strOfNums fun b hb => ?_
  rcases List.mem_append.1 hb with h | h
  · exact byt_flat2 _ b h
  · obtain ⟨_, rfl⟩ := List.mem_replicate.1 h
    omega
theorem put_size (L : List Int) (p : Nat) (hL : L.length = 256) (hp : p < 4) : (putF L p).size = 256 := by
  unfold putF
  rw [strOfNums_size, List.length_append, flat2_length, partF_len L p hL hp, List.length_replicate]
theorem gv_put {L : List Int} (h : GoodL L) (p i : Nat) (hp : p < 4) (hi : i < 64) : gv (putF L p) i = L.getD (64 * p + i) 0 := by
  have hl := partF_len L p h.1 hp
  have hx := h.2.2 (64 * p + i) (by omega)
  rw [← part_at L p i hi] at hx ⊢
  have hi2 : i < (partF L p).length := by omega
  have e : (partF L p).getD i 0 = (partF L p)[i] := by rw [List.getD_eq_getElem?_getD, List.getElem?_eq_getElem hi2]; rfl
  rw [e] at hx ⊢
  unfold gv
  rw [if_pos (by rw [put_size L p h.1 hp]; omega), bytesOf_extract, put_bytes L p h.1 hp, show 2 * i + 2 - 2 * i = 2 by omega, chunk _ _ i hi2, u64_id hx.1 (by omega), numF_ordF 2 _ hx.1 (by omega)]
/-- The map of which the first p parts have been taken. -/
def PL (L : List Int) (p : Nat) : List Int := (List.range 256).map fun n => if n < 64 * p then L.getD n 0 else 0
theorem PL_len (L : List Int) (p : Nat) : (PL L p).length = 256 := by unfold PL; rw [List.length_map, List.length_range]
theorem PL_at (L : List Int) (p n : Nat) (hn : n < 256) : (PL L p).getD n 0 = if n < 64 * p then L.getD n 0 else 0 := by
  unfold PL
  rw [List.getD_eq_getElem?_getD, List.getElem?_map, List.getElem?_range hn]
  rfl
theorem PL_zero (L : List Int) : PL L 0 = Z256 := ext256 (PL_len _ _) Z256_len (fun n hn => by rw [PL_at _ _ _ hn, Z256_at, if_neg (by omega)])
theorem PL_four {L : List Int} (h : GoodL L) : PL L 4 = L := ext256 (PL_len _ _) h.1 (fun n hn => by rw [PL_at _ _ _ hn, if_pos (by omega)])
theorem PL_step {L : List Int} (h : GoodL L) (p : Nat) (hp : p < 4) : newTo (PL L p) p (putF L p) 64 = PL L (p + 1) := by
  apply ext256 (newTo_len _ _ _ _) (PL_len _ _)
  intro n hn
  rw [newTo_at _ _ _ _ _ hn, PL_at _ _ _ hn, PL_at _ _ _ hn]
  by_cases c : 64 * p ≤ n ∧ n < 64 * p + 64 ∧ 1 ≤ n
  · rw [if_pos c, if_pos (by omega), gv_put h p (n - 64 * p) hp (by omega), show 64 * p + (n - 64 * p) = n by omega]
  · rw [if_neg c]
    by_cases d : n < 64 * p
    · rw [if_pos d, if_pos (by omega)]
    · rw [if_neg d]
      by_cases e : n = 0
      · subst e; rw [h.2.1]; split <;> rfl
      · rw [if_neg (by omega)]
theorem part_PL (L : List Int) (hL : L.length = 256) (p : Nat) (hp : p < 4) : partF (PL L (p + 1)) p = partF L p := by
  apply List.ext_getElem (by rw [partF_len _ _ (PL_len _ _) hp, partF_len _ _ hL hp])
  intro i h1 h2
  have hi : i < 64 := by rw [partF_len _ _ (PL_len _ _) hp] at h1; exact h1
  have e1 : (partF (PL L (p + 1)) p).getD i 0 = (partF (PL L (p + 1)) p)[i] := by rw [List.getD_eq_getElem?_getD, List.getElem?_eq_getElem h1]; rfl
  have e2 : (partF L p).getD i 0 = (partF L p)[i] := by rw [List.getD_eq_getElem?_getD, List.getElem?_eq_getElem h2]; rfl
  rw [← e1, ← e2, part_at _ _ _ hi, part_at _ _ _ hi, PL_at _ _ _ (by omega), if_pos (by omega)]
theorem PL_takes {L : List Int} (h : GoodL L) (p : Nat) (hp : p < 4) : takes (PL L p) p (putF L p) := by
  refine ⟨fun i hi => ?_, ?_⟩
  · rw [gv_put h p i hp hi]
    refine ⟨(h.2.2 _ (by omega)).2, fun e => ?_⟩
    rw [e]; exact h.2.1
  · rw [PL_step h p hp]
    unfold putF
    rw [part_PL L h.1 p hp]
end Go.Proofs.Ytbdghlneiblkcaa.Imap
