/- Plain lemmas on bytes and numbers: what bin.Put prints, what bin.Get reads of it, and how bytes behave under joining and cutting. No memory is in sight. -/
import Derived.Test.YtbdghlneiblkcaaBinGetGiven
import Derived.Test.YtbdghlneiblkcaaPSpanx11
namespace Go.Proofs.Ytbdghlneiblkcaa.PSpan
open Go.RowKit Go.Proofs.YtbdghlneiblkcaaW.PrintWords Go.Proofs.YtbdghlneiblkcaaW.PrintLast Go.Proofs.YtbdghlneiblkcaaW.PrintMore Go.Proofs.Ytbdghlneiblkcaa.Aid
set_option linter.unusedVariables false
set_option linter.unusedSimpArgs false

theorem bytesOf_append (a b : ByteArray) : bytesOf (a ++ b) = bytesOf a ++ bytesOf b := by
  unfold bytesOf; rw [ByteArray.data_append, Array.toList_append, List.map_append]
theorem bytesOf_extract (a : ByteArray) (i j : Nat) : bytesOf (a.extract i j) = ((bytesOf a).drop i).take (j - i) := by
  unfold bytesOf; rw [ByteArray.data_extract, Array.toList_extract, List.extract_eq_take_drop, List.map_take, List.map_drop]
theorem bytesOf_strOfNums {l : List Int} (h : Byt l) : bytesOf (strOfNums l) = l := by
  unfold bytesOf
  rw [strOfNums_data, List.map_map]
  have : ∀ x, x ∈ l → ((fun b : UInt8 => (b.toNat : Int)) ∘ fun n => UInt8.ofNat n.toNat) x = x := by
    intro x hx
    obtain ⟨h0, h1⟩ := h x hx
    show ((UInt8.ofNat x.toNat).toNat : Int) = x
    rw [UInt8.toNat_ofNat']
    omega
  rw [List.map_congr_left this, List.map_id']
theorem bytesOf_inj {a b : ByteArray} (h : bytesOf a = bytesOf b) : a = b := by
  have h1 : a.data.toList = b.data.toList := by
    unfold bytesOf at h
    generalize a.data.toList = x at h
    generalize b.data.toList = y at h
    induction x generalizing y with
    | nil => cases y with
      | nil => rfl
      | cons c t => simp at h
    | cons d s ih => cases y with
      | nil => simp at h
      | cons c t =>
        simp only [List.map_cons, List.cons.injEq] at h
        rw [ih _ h.2]
        have : d = c := UInt8.toNat_inj.1 (by omega)
        rw [this]
  cases a; cases b
  congr 1
  exact Array.toList_inj.1 h1

/-- The lowest n bytes of a number, the lowest first. -/
def ordF (v : Int) : Nat → List Int
  | 0 => []
  | n + 1 => v % 256 :: ordF (v / 256) n
theorem ordF_length (n : Nat) : ∀ v, (ordF v n).length = n := by
  induction n with
  | zero => exact fun _ => rfl
  | succ n ih => exact fun v => by simp [ordF, ih]
theorem byt_ordF (n : Nat) : ∀ v, Byt (ordF v n) := by
  induction n with
  | zero => exact fun v b hb => by cases hb
  | succ n ih =>
    intro v b hb
    rcases List.mem_cons.1 hb with rfl | h
    · exact ⟨Int.emod_nonneg _ (by omega), by have := Int.emod_lt_of_pos v (show (0 : Int) < 256 by omega); omega⟩
    · exact ih _ b h
theorem ordF_map (n : Nat) : ∀ v : Int, (List.range n).map (fun i => (v / 2 ^ (8 * i)) % 256) = ordF v n := by
  induction n with
  | zero => exact fun _ => rfl
  | succ n ih =>
    intro v
    rw [List.range_succ_eq_map, List.map_cons, List.map_map]
    simp only [ordF]
    rw [← ih]
    congr 1
    · simp
    · refine List.map_congr_left fun i _ => ?_
      simp only [Function.comp]
      have : (2 : Int) ^ (8 * (i + 1)) = 256 * 2 ^ (8 * i) := by
        rw [Nat.mul_add, Int.pow_add]; omega
      rw [show i.succ = i + 1 from rfl, this, Int.ediv_ediv_of_nonneg (by omega)]
theorem numF_ordF (n : Nat) : ∀ v : Int, 0 ≤ v → v < 256 ^ n → numF (ordF v n) = v := by
  induction n with
  | zero => intro v h0 h1; simp at h1; simp [ordF, numF]; omega
  | succ n ih =>
    intro v h0 h1
    rw [Int.pow_succ] at h1
    simp only [ordF, numF]
    rw [ih (v / 256) (by omega) (by omega)]
    omega
theorem ordF_zero (n : Nat) : ∀ v : Int, ordF v n = List.replicate n 0 → 0 ≤ v → v < 256 ^ n → v = 0 := by
  intro v h h0 h1
  rw [← numF_ordF n v h0 h1, h]
  clear h h0 h1
  induction n with
  | zero => rfl
  | succ n ih => simp [List.replicate_succ, numF, ih]

theorem order_loop (x : Int) (n : Nat) (hn : n ≤ 7) (d : Nat) : ∀ i : Nat, i + d = n → ∀ k, d < k →
    bin_order_uint64.l0 k x (((List.range i).map (fun j => (x / 2 ^ (8 * j)) % 256)) ++ List.replicate d 0) (n : Int) (i : Int) = some (ordF x n) := by
  induction d with
  | zero =>
    intro i hi k hk
    obtain ⟨k, rfl⟩ : ∃ m, k = m + 1 := ⟨k - 1, by omega⟩
    rw [bin_order_uint64.l0, if_neg (by omega), List.replicate_zero, List.append_nil, ordF_map, show i = n by omega]
  | succ d ih =>
    intro i hi k hk
    obtain ⟨k, rfl⟩ : ∃ m, k = m + 1 := ⟨k - 1, by omega⟩
    have e1 : wrap64 (8 * (i : Int)) = ((8 * i : Nat) : Int) := by rw [w64 (by omega) (by omega)]; omega
    have e2 : wrap64 ((i : Int) + 1) = ((i + 1 : Nat) : Int) := by rw [w64 (by omega) (by omega)]; omega
    have e3 : shr .u64 x ((8 * i : Nat) : Int) = x / 2 ^ (8 * i) := by
      unfold shr
      rw [Int.toNat_natCast, Nat.min_eq_left (show 8 * i ≤ IntKind.u64.bits by simp only [IntKind.bits]; omega)]
    have e4 : ((((List.range i).map (fun j => (x / 2 ^ (8 * j)) % 256)) ++ List.replicate (d + 1) 0).set (i : Int).toNat ((x / 2 ^ (8 * i)) % 256)) =
        (((List.range (i + 1)).map (fun j => (x / 2 ^ (8 * j)) % 256)) ++ List.replicate d 0) := by
      rw [Int.toNat_natCast, List.set_append_right _ _ (by simp), List.length_map, List.length_range, Nat.sub_self, List.replicate_succ, List.set_cons_zero, List.range_succ, List.map_append]
      simp
    rw [bin_order_uint64.l0, if_pos (by omega), e1, if_pos (by omega), if_pos (by omega), if_pos (by simp; omega), e3, e4, e2]
    exact ih (i + 1) (by omega) k (by omega)
theorem put_eq (v n : Int) {k : Nat} (hk : 8 ≤ k) : bin_Put.f k v n = some (strOfNums (ordF (IntKind.u64.wrap v) (mx 0 (mn n 7)).toNat)) := by
  have h0 : 0 ≤ mx 0 (mn n 7) := by unfold mx; omega
  have h1 : mx 0 (mn n 7) ≤ 7 := by unfold mx mn; omega
  obtain ⟨m, hm⟩ := Int.eq_ofNat_of_zero_le h0
  rw [hm] at h1
  unfold bin_Put.f bin_order_uint64.f
  rw [hm, if_pos (by omega), if_pos (by omega), Int.toNat_natCast]
  simp only [Option.bind_some, List.length_replicate]
  have := order_loop (IntKind.u64.wrap v) m (by omega) m 0 (by omega) k (by omega)
  rw [List.range_zero, List.map_nil, List.nil_append] at this
  rw [show ((0 : Nat) : Int) = 0 from rfl] at this
  rw [this]
  rfl
theorem u64_id {v : Int} (h0 : 0 ≤ v) (h1 : v < 18446744073709551616) : IntKind.u64.wrap v = v := by
  rw [IntKind.wrap_u64]; exact Int.emod_eq_of_lt h0 h1

theorem get_eq {s : ByteArray} {a n : Int} (hs : (s.size : Int) ≤ 4611686018427387904) (h0 : 0 ≤ n) (h1 : n ≤ 7) (h2 : 0 ≤ a) (h3 : a + n ≤ s.size) :
    bin_Get.f s a n = some (numF (((bytesOf s).drop a.toNat).take n.toNat), true) := by
  unfold bin_Get.f
  rw [if_pos hs, if_neg (by omega), bytesOf_extract, show (a + n).toNat - a.toNat = n.toNat from by omega]
theorem get_none {s : ByteArray} {a n : Int} (hs : (s.size : Int) ≤ 4611686018427387904) (h : n < 0 ∨ n > 7 ∨ a < 0 ∨ a > (s.size : Int) - n) : bin_Get.f s a n = some (0, false) := by
  unfold bin_Get.f
  rw [if_pos hs, if_pos h]
end Go.Proofs.Ytbdghlneiblkcaa.PSpan
