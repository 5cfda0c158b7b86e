/- imap.Map: the contract of Take: a part from its block. Conditions: none. -/
import Derived.Test.YtbdghlneiblkcaaImapB
import Derived.ChangeKeysEq
namespace Go.Proofs.Ytbdghlneiblkcaa.Imap
open Go.RowKit Go.Proofs.YtbdghlneiblkcaaW.PrintWords Go.Proofs.YtbdghlneiblkcaaW.PrintLast Go.Proofs.YtbdghlneiblkcaaW.PrintMore
open Go.Proofs.Ytbdghlneiblkcaa.Aid Go.Proofs.Ytbdghlneiblkcaa.PSpan
set_option linter.unusedVariables false
set_option linter.unusedSimpArgs false

/-- A block's number at place i (0 beyond its end). -/
def gv (s : ByteArray) (i : Nat) : Int := if 2 * i + 2 ≤ s.size then numF (bytesOf (s.extract (2 * i) (2 * i + 2))) else 0
theorem gv_bd (s : ByteArray) (i : Nat) : 0 ≤ gv s i ∧ gv s i ≤ 65535 := by
  unfold gv
  by_cases h : 2 * i + 2 ≤ s.size
  · rw [if_pos h]
    have hb := numF_bd _ (byt_bytesOf (s.extract (2 * i) (2 * i + 2)))
    rw [bytesOf_length, ByteArray.size_extract, show min (2 * i + 2) s.size - 2 * i = 2 by omega] at hb
    omega
  · rw [if_neg h]; omega
theorem get_gv (s : ByteArray) (i : Nat) (hs : (s.size : Int) ≤ 4611686018427387904) : ∃ b, bin_Get.f s (2 * (i : Int)) 2 = some (gv s i, b) := by
  unfold bin_Get.f gv
  rw [if_pos hs]
  by_cases h : 2 * i + 2 ≤ s.size
  · rw [if_neg (by omega), if_pos h]
    refine ⟨true, ?_⟩
    rw [show (2 * (i : Int)).toNat = 2 * i by omega, show (2 * (i : Int) + 2).toNat = 2 * i + 2 by omega]
  · rw [if_pos (by omega), if_neg h]; exact ⟨false, rfl⟩
def newTo (L : List Int) (p : Nat) (s : ByteArray) (k : Nat) : List Int := (List.range 256).map fun n => if 64 * p ≤ n ∧ n < 64 * p + k ∧ 1 ≤ n then gv s (n - 64 * p) else L.getD n 0
theorem newTo_len (L : List Int) (p : Nat) (s : ByteArray) (k : Nat) : (newTo L p s k).length = 256 := by unfold newTo; rw [List.length_map, List.length_range]
theorem newTo_at (L : List Int) (p : Nat) (s : ByteArray) (k n : Nat) (hn : n < 256) : (newTo L p s k).getD n 0 = if 64 * p ≤ n ∧ n < 64 * p + k ∧ 1 ≤ n then gv s (n - 64 * p) else L.getD n 0 := by
  unfold newTo
  rw [List.getD_eq_getElem?_getD, List.getElem?_map, List.getElem?_range hn]
  rfl
theorem newTo_zero (L : List Int) (p : Nat) (s : ByteArray) (hL : L.length = 256) : newTo L p s 0 = L := by
  apply ext256 (newTo_len _ _ _ _) hL
  intro n hn
  rw [newTo_at _ _ _ _ _ hn, if_neg (by omega)]
theorem newTo_set (L : List Int) (p : Nat) (s : ByteArray) (k : Nat) (hk : 1 ≤ 64 * p + k) (h2 : 64 * p + k < 256) : (newTo L p s k).set (64 * p + k) (gv s k) = newTo L p s (k + 1) := by
  apply ext256 (by rw [List.length_set, newTo_len]) (newTo_len _ _ _ _)
  intro n hn
  rw [set_at _ _ _ _ (newTo_len _ _ _ _) hn, newTo_at _ _ _ _ _ hn, newTo_at _ _ _ _ _ hn]
  by_cases e : 64 * p + k = n
  · subst e
    rw [if_pos rfl, if_pos (by omega), show 64 * p + k - 64 * p = k by omega]
  · rw [if_neg e]
    by_cases h : 64 * p ≤ n ∧ n < 64 * p + k ∧ 1 ≤ n
    · rw [if_pos h, if_pos (by omega)]
    · rw [if_neg h, if_neg (by omega)]
theorem newTo_none (L : List Int) (s : ByteArray) : newTo L 0 s 1 = newTo L 0 s 0 := by
  apply ext256 (newTo_len _ _ _ _) (newTo_len _ _ _ _)
  intro n hn
  rw [newTo_at _ _ _ _ _ hn, newTo_at _ _ _ _ _ hn, if_neg (by omega), if_neg (by omega)]
/-- May the numbers below k be a part's sectors? -/
def okTo (p : Nat) (s : ByteArray) (k : Nat) : Prop := ∀ i, i < k → gv s i < 16384 ∧ (64 * p + i = 0 → gv s i = 0)
/-- May a block be a part? -/
def takes (L : List Int) (p : Nat) (s : ByteArray) : Prop := okTo p s 64 ∧ putF (newTo L p s 64) p = s

/-! two whole rows of numbers compared -/
theorem part3 (xs : List Int) (i : Nat) (hi : i < xs.length) (w : World) : (part 3 (vals xs) (i * 1)).run Try.prog w = .ok (.int .i64 (xs.getD i 0)) w := by
  have h := vals_at xs i hi
  rw [Nat.mul_one]
  simp [part, isAgg3 w, h, Result.andThen]
theorem run_eq_items (xs ys : List Int) (d : Nat) (w : World) : ∀ is : List Nat, (∀ i ∈ is, i < xs.length ∧ i < ys.length) →
    (Op.eqItems (d + 1) 3 1 (vals xs) (vals ys) is).run Try.prog w = .ok (is.all fun i => xs.getD i 0 == ys.getD i 0) w
  | [], _ => by simp [Op.eqItems]
  | i :: is, h => by
    have ih := run_eq_items xs ys d w is (fun j hj => h j (List.mem_cons_of_mem _ hj))
    obtain ⟨h1, h2⟩ := h i List.mem_cons_self
    have he : (Op.equalIn (d + 1) 3 (.int .i64 (xs.getD i 0)) (.int .i64 (ys.getD i 0))).run Try.prog w = .ok (xs.getD i 0 == ys.getD i 0) w := run_equalIn_int w d 3 .i64 .i64 _ _ Try.underlying3
    simp only [Op.eqItems, Sem.run_bind, part3 xs i h1 w, part3 ys i h2 w, he, Result.andThen_ok, List.all_cons]
    cases hb : (xs.getD i 0 == ys.getD i 0)
    · simp
    · simpa using ih
theorem run_eq_arr (xs ys : List Int) (hx : xs.length = 256) (hy : ys.length = 256) (d : Nat) (w : World) :
    (Op.equalIn (d + 2) 41 (.agg (vals xs)) (.agg (vals ys))).run Try.prog w = .ok (xs == ys) w := by
  obtain ⟨i3, hi3, _, _, _⟩ := info_parts PSpan.info3
  have hc : Try.prog.cellsOf 3 = 1 := by kernel_rfl
  rw [run_equalIn_array w (d + 1) (vals xs) (vals ys) Try.underlying41 hi3, hc, run_eq_items xs ys d w _ (fun i hi => by have := List.mem_range.1 hi; omega)]
  congr 1
  rw [Bool.eq_iff_iff, List.all_eq_true, beq_iff_eq]
  constructor
  · intro h
    exact ext256 hx hy (fun n hn => by simpa using h n (List.mem_range.2 hn))
  · intro h i _
    rw [h]; simp
end Go.Proofs.Ytbdghlneiblkcaa.Imap
