/- SpanAll, the plain law: span's functions answer as the reference's. -/
import Derived.Test.YtbdghlneiblkcaaPSpanx19
import Derived.Test.YtbdghlneiblkcaaSpanPtr
namespace Go.Proofs.Ytbdghlneiblkcaa.Pure
open Go.RowKit Go.Proofs.Ytbdghlneiblkcaa.PSpan Go.Proofs.YtbdghlneiblkcaaW.PrintWords Go.Proofs.YtbdghlneiblkcaaW.PrintLast Go.Proofs.YtbdghlneiblkcaaW.PrintMore
open Go.Proofs.Ytbdghlneiblkcaa.Aid
set_option linter.unusedVariables false
set_option linter.unusedSimpArgs false

theorem way_same (x : Int) : ∃ a b c d, ∀ k, 1 ≤ k → span_Way.f k x = some (a, b, c, d) ∧ beguinageref10_Way.f k x = some (a, b, c, d) := by
  have key : ∃ a b c d, span_Way.f 1 x = some (a, b, c, d) ∧ beguinageref10_Way.f 1 x = some (a, b, c, d) := by
    by_cases h0 : x < 0 ∨ 588 ≤ x
    · exact ⟨_, _, _, _, way_none h0, rway_none h0⟩
    · by_cases h1 : 76 ≤ x
      · have hd : isD x = true := by unfold isD; rw [decide_eq_true h1, decide_eq_true (show x < 588 by omega)]; rfl
        refine ⟨_, _, _, _, way_dbl hd, ?_⟩
        rw [rway_dbl hd, w64 (x := x - 12) (by omega) (by omega), w64 (x := x - 12 - 64) (by omega) (by omega), tmod_pos' _ (by omega), tmod_pos' _ (by omega)]
        congr 4
        omega
      · by_cases h2 : 12 ≤ x
        · have hd : isS x = true := by unfold isS; rw [decide_eq_true h2, decide_eq_true (show x < 76 by omega)]; rfl
          refine ⟨_, _, _, _, way_sgl hd, ?_⟩
          rw [rway_sgl hd, w64 (x := x - 12) (by omega) (by omega), tmod_pos' _ (by omega)]
          congr 4
          omega
        · exact ⟨_, _, _, _, way_str (by omega) (by omega), rway_str (by omega) (by omega)⟩
  obtain ⟨a, b, c, d, h1, h2⟩ := key
  exact ⟨a, b, c, d, fun k hk => ⟨at_rounds (fun k => span_Way.mono x k) hk h1, at_rounds (fun k => beguinageref10_Way.mono x k) hk h2⟩⟩

theorem bt_at (s : ByteArray) (i : Nat) (h : i < s.size) : (bytesOf s)[i]? = some (bt s (i : Int)) ∧ 0 ≤ bt s (i : Int) ∧ bt s (i : Int) ≤ 255 := by
  have e : bt s (i : Int) = ((s[i]'h).toNat : Int) := by
    unfold bt
    have h2 : (i : Int).toNat < s.size := h
    rw [dif_pos h2]
    rfl
  refine ⟨?_, ?_⟩
  · rw [e]
    unfold bytesOf
    rw [List.getElem?_map, Array.getElem?_toList, Array.getElem?_eq_getElem (by exact h)]
    rfl
  · rw [e]
    have := (s[i]'h).toNat_lt
    omega

/-- The pointers of a block: two bytes each, the lower first. -/
def ptrs (s : ByteArray) : List Int := (List.range 64).map fun i => bt s ((2 * i : Nat) : Int) + 256 * bt s ((2 * i + 1 : Nat) : Int)
theorem ptrs_len (s : ByteArray) : (ptrs s).length = 64 := by unfold ptrs; rw [List.length_map, List.length_range]
theorem ptrs_at (s : ByteArray) (i : Nat) (h : i < (ptrs s).length) : (ptrs s)[i] = bt s ((2 * i : Nat) : Int) + 256 * bt s ((2 * i + 1 : Nat) : Int) := by
  simp [ptrs]
theorem get_two (s : ByteArray) (hs : s.size = 256) (i : Nat) (h : i < 64) : bin_Get.f s ((2 * i : Nat) : Int) 2 = some (bt s ((2 * i : Nat) : Int) + 256 * bt s ((2 * i + 1 : Nat) : Int), true) := by
  obtain ⟨e1, _⟩ := bt_at s (2 * i) (by omega)
  obtain ⟨e2, _⟩ := bt_at s (2 * i + 1) (by omega)
  obtain ⟨l1, g1⟩ := List.getElem?_eq_some_iff.1 e1
  obtain ⟨l2, g2⟩ := List.getElem?_eq_some_iff.1 e2
  rw [get_eq (by rw [hs]; omega) (by omega) (by omega) (by omega) (by rw [hs]; omega), Int.toNat_natCast, show (2 : Int).toNat = 2 from rfl, List.drop_eq_getElem_cons l1, List.drop_eq_getElem_cons l2, g1, g2]
  simp only [List.take_succ_cons, List.take_zero, numF]
  congr 2
  omega
theorem rget_two (s : ByteArray) (hs : s.size = 256) (i : Nat) (h : i < 64) (k : Nat) (hk : 4 ≤ k) : beguinageref03_Get.f k s ((2 * i : Nat) : Int) 2 = some (bt s ((2 * i : Nat) : Int) + 256 * bt s ((2 * i + 1 : Nat) : Int), true) := by
  obtain ⟨_, b0, b1⟩ := bt_at s (2 * i) (by omega)
  obtain ⟨_, c0, c1⟩ := bt_at s (2 * i + 1) (by omega)
  obtain ⟨k, rfl⟩ : ∃ m, k = m + 4 := ⟨k - 4, by omega⟩
  have w1 : wrap64 ((2 : Int) - 1) = 1 := by rw [w64 (by omega) (by omega)]; rfl
  have w2 : wrap64 (((2 * i : Nat) : Int) + 1) = ((2 * i + 1 : Nat) : Int) := by rw [w64 (by omega) (by omega)]; omega
  have w3 : wrap64 (((2 * i : Nat) : Int) + 0) = ((2 * i : Nat) : Int) := by rw [w64 (by omega) (by omega)]; omega
  have w4 : wrap64 ((256 : Int) - ((2 * i : Nat) : Int)) = 256 - ((2 * i : Nat) : Int) := w64 (by omega) (by omega)
  have hsz : (s.size : Int) = 256 := by omega
  have o1 : Go.bits .or .i64 (wrap64 (0 * 256)) (wrap64 (bt s ((2 * i + 1 : Nat) : Int))) = bt s ((2 * i + 1 : Nat) : Int) := by
    rw [w64 (x := 0 * 256) (by omega) (by omega), w64 (x := bt s ((2 * i + 1 : Nat) : Int)) (by omega) (by omega), or_byte (by omega) (by omega) c0 c1]; omega
  have o2 : Go.bits .or .i64 (wrap64 (bt s ((2 * i + 1 : Nat) : Int) * 256)) (wrap64 (bt s ((2 * i : Nat) : Int))) = bt s ((2 * i : Nat) : Int) + 256 * bt s ((2 * i + 1 : Nat) : Int) := by
    rw [w64 (x := bt s ((2 * i + 1 : Nat) : Int) * 256) (by omega) (by omega), w64 (x := bt s ((2 * i : Nat) : Int)) (by omega) (by omega), or_byte c0 (by omega) b0 b1]
  unfold beguinageref03_Get.f
  rw [if_neg (by omega), if_neg (by omega), if_neg (by omega), if_neg (by omega), hsz, w4, decide_eq_false (by omega), beguinageref03_Get.j0, if_neg Bool.false_ne_true, w1, beguinageref03_Get.l0, if_pos (by omega), w2, if_pos (by omega), if_pos (by omega), o1,
    show wrap64 ((1 : Int) - 1) = 0 by rw [w64 (by omega) (by omega)]; rfl, beguinageref03_Get.l0, if_pos (by omega), w3, if_pos (by omega), if_pos (by omega), o2, show wrap64 ((0 : Int) - 1) = -1 by rw [w64 (by omega) (by omega)]; rfl, beguinageref03_Get.l0, if_neg (by omega)]

theorem pointersS (s : ByteArray) (hsz : s.size = 256) : ∃ K, ∀ k, K ≤ k → span_Pointers.f k s = some (ptrs s) := by
  have hm := ptrs_len s
  have step : ∀ d i : Nat, i + d = 64 → ∀ x3 : List Int, x3.length = 64 → (∀ j, j < i → x3[j]? = (ptrs s)[j]?) → ∃ K, ∀ k, K ≤ k → span_Pointers.l0 k s x3 64 (i : Int) = some (ptrs s) := by
    intro d
    induction d with
    | zero =>
      intro i hi x3 hx hj
      obtain rfl : i = 64 := by omega
      have e : x3 = ptrs s := by
        apply List.ext_getElem?
        intro j
        by_cases h : j < 64
        · exact hj j h
        · rw [List.getElem?_eq_none (by omega), List.getElem?_eq_none (by omega)]
      refine ⟨1, fun k hk => ?_⟩
      obtain ⟨k, rfl⟩ : ∃ m, k = m + 1 := ⟨k - 1, by omega⟩
      rw [span_Pointers.l0, if_neg (by omega), e]
    | succ d ih =>
      intro i hi x3 hx hj
      have him : i < (ptrs s).length := by omega
      obtain ⟨K, hK⟩ := ih (i + 1) (by omega) (x3.set i (ptrs s)[i]) (by rw [List.length_set]; exact hx) (fun j hj2 => by
        by_cases e : j = i
        · subst e
          rw [List.getElem?_set_self (by omega), List.getElem?_eq_getElem him]
        · rw [List.getElem?_set_ne (by omega)]
          exact hj j (by omega))
      refine ⟨K + 1, fun k hk => ?_⟩
      obtain ⟨k, rfl⟩ : ∃ m, k = m + 1 := ⟨k - 1, by omega⟩
      have hk2 : K ≤ k := by omega
      have c1 : (i : Int) < 64 := by omega
      have c2 : 0 ≤ (i : Int) := by omega
      have c3 : (i : Int) < (x3.length : Int) := by omega
      have hw : Aside0 (wrap64 ((i : Int) + 1) = ((i + 1 : Nat) : Int)) := Aside0.mk (by rw [w64 (by omega) (by omega)]; rfl)
      have hw2 : Aside0 (wrap64 (2 * (i : Int)) = ((2 * i : Nat) : Int)) := Aside0.mk (by rw [w64 (by omega) (by omega)]; omega)
      rw [span_Pointers.l0, if_pos c1, hw2.out, get_two s hsz i (by omega), Option.bind_some, if_pos c2, if_pos c3, hw.out, Int.toNat_natCast, ← ptrs_at s i him]
      exact hK k hk2
  obtain ⟨K, hK⟩ := step 64 0 (by omega) (List.replicate 64 0) (List.length_replicate ..) (fun j hj => by omega)
  refine ⟨K, fun k hk => ?_⟩
  unfold span_Pointers.f
  rw [if_pos (by rw [hsz]; rfl), if_pos (by omega), Option.bind_some, List.length_replicate]
  exact hK k hk
theorem rpointers (s : ByteArray) (hsz : s.size = 256) : ∃ K, ∀ k, K ≤ k → beguinageref10_Pointers.f k s = some (ptrs s) := by
  have hm := ptrs_len s
  have step : ∀ d i : Nat, i + d = 64 → ∃ K, ∀ k, K ≤ k → beguinageref10_Pointers.l0 k s ((ptrs s).take i) (i : Int) = some (ptrs s) := by
    intro d
    induction d with
    | zero =>
      intro i hi
      obtain rfl : i = 64 := by omega
      refine ⟨1, fun k hk => ?_⟩
      obtain ⟨k, rfl⟩ : ∃ m, k = m + 1 := ⟨k - 1, by omega⟩
      rw [beguinageref10_Pointers.l0, if_neg (by omega), List.take_of_length_le (by omega)]
    | succ d ih =>
      intro i hi
      have him : i < (ptrs s).length := by omega
      obtain ⟨K, hK⟩ := ih (i + 1) (by omega)
      refine ⟨K + 5, fun k hk => ?_⟩
      obtain ⟨k, rfl⟩ : ∃ m, k = m + 1 := ⟨k - 1, by omega⟩
      have hk2 : K ≤ k := by omega
      have c1 : (i : Int) < 64 := by omega
      have c3 : ((ptrs s).take i).length < 17592186044416 := by rw [List.length_take]; omega
      have hw : Aside0 (wrap64 ((i : Int) + 1) = ((i + 1 : Nat) : Int)) := Aside0.mk (by rw [w64 (by omega) (by omega)]; rfl)
      have hw2 : Aside0 (wrap64 (2 * (i : Int)) = ((2 * i : Nat) : Int)) := Aside0.mk (by rw [w64 (by omega) (by omega)]; omega)
      rw [beguinageref10_Pointers.l0, if_pos c1, hw2.out, rget_two s hsz i (by omega) k (by omega), Option.bind_some, if_pos c3, hw.out, ← ptrs_at s i him, List.take_append_getElem]
      exact hK k hk2
  obtain ⟨K, hK⟩ := step 64 0 (by omega)
  refine ⟨K, fun k hk => ?_⟩
  unfold beguinageref10_Pointers.f
  rw [if_pos (by rw [hsz]; rfl)]
  exact hK k hk

theorem strApp (a b : List Int) : strOfNums a ++ strOfNums b = strOfNums (a ++ b) := by
  have : (strOfNums a ++ strOfNums b).data = (strOfNums (a ++ b)).data := by
    apply Array.toList_inj.1
    rw [ByteArray.data_append, Array.toList_append, strOfNums_data, strOfNums_data, strOfNums_data, List.map_append]
  cases h1 : strOfNums a ++ strOfNums b
  cases h2 : strOfNums (a ++ b)
  rw [h1, h2] at this
  congr 1
theorem ord_two (v : Int) : ordF (IntKind.u64.wrap v) 2 = [v % 256, (v / 256) % 256] := by
  simp only [ordF]
  rw [IntKind.wrap_u64]
  have e1 : v % 18446744073709551616 % 256 = v % 256 := by omega
  have e2 : v % 18446744073709551616 / 256 % 256 = v / 256 % 256 := by omega
  rw [e1, e2]
theorem rput_two (v : Int) (k : Nat) (hk : 3 ≤ k) : beguinageref03_Put.f k v 2 = some (strOfNums (ordF (IntKind.u64.wrap v) 2)) := by
  obtain ⟨k, rfl⟩ : ∃ m, k = m + 3 := ⟨k - 3, by omega⟩
  rw [ord_two]
  unfold beguinageref03_Put.f
  rw [beguinageref03_Put.l0, if_pos (by omega), if_pos (by omega), if_pos (by simp), show wrap64 ((0 : Int) + 1) = 1 by rw [w64 (by omega) (by omega)]; rfl, beguinageref03_Put.l0, if_pos (by omega), if_pos (by omega), if_pos (by simp), show wrap64 ((1 : Int) + 1) = 2 by rw [w64 (by omega) (by omega)]; rfl, beguinageref03_Put.l0, if_neg (by omega)]
  rfl
/-- The first 64 numbers, noughts behind them. -/
def pad (l : List Int) : List Int := l.take 64 ++ List.replicate (64 - (l.take 64).length) 0
theorem pad_len (l : List Int) : (pad l).length = 64 := by
  unfold pad; rw [List.length_append, List.length_replicate, List.length_take]; omega
theorem pad_at (l : List Int) (i : Nat) (h : i < 64) (h2 : i < (pad l).length) : (pad l)[i] = if i < l.length then rd l (i : Int) else 0 := by
  have key : (pad l)[i]? = some (if i < l.length then rd l (i : Int) else 0) := by
    unfold pad rd
    by_cases c : i < l.length
    · rw [if_pos c, List.getElem?_append_left (by rw [List.length_take]; omega), List.getElem?_take_of_lt h, Int.toNat_natCast, List.getD_eq_getElem?_getD, List.getElem?_eq_getElem c]
      rfl
    · rw [if_neg c, List.getElem?_append_right (by rw [List.length_take]; omega), List.getElem?_replicate, if_pos (by rw [List.length_take]; omega)]
  exact (List.getElem?_eq_some_iff.1 key).2
theorem flat_app (a b : List Int) : flat2 (a ++ b) = flat2 a ++ flat2 b := by unfold flat2; rw [List.flatMap_append]
theorem flat_zero (n : Nat) : flat2 (List.replicate n 0) = List.replicate (2 * n) 0 := by
  induction n with
  | zero => rfl
  | succ n ih =>
    rw [List.replicate_succ, show ((0 : Int) :: List.replicate n 0) = [0] ++ List.replicate n 0 from rfl, flat_app, ih]
    rw [show 2 * (n + 1) = 2 * n + 1 + 1 by omega, List.replicate_succ, List.replicate_succ]
    rfl
theorem block_pad (l : List Int) : blockF l = flat2 (pad l) ++ List.replicate 128 0 := by
  unfold blockF pad
  have : (l.take 64).length ≤ 64 := by rw [List.length_take]; omega
  rw [flat_app, flat_zero, List.append_assoc, List.replicate_append_replicate]
  congr 2
  omega
theorem rbytes (l : List Int) : ∃ K, ∀ k, K ≤ k → beguinageref10_Bytes.f k l = some (strOfNums (blockF l)) := by
  have hm := pad_len l
  have step : ∀ d i : Nat, i + d = 64 → ∃ K, ∀ k, K ≤ k → beguinageref10_Bytes.l0 k l (strOfNums (flat2 ((pad l).take i))) (i : Int) = some (strOfNums (blockF l)) := by
    intro d
    induction d with
    | zero =>
      intro i hi
      obtain rfl : i = 64 := by omega
      refine ⟨1, fun k hk => ?_⟩
      obtain ⟨k, rfl⟩ : ∃ m, k = m + 1 := ⟨k - 1, by omega⟩
      have hz : (strOfNums (flat2 ((pad l).take 64))).size = 128 := by rw [strOfNums_size, flat2_length, List.length_take]; omega
      have hz2 : (strOfNums (List.replicate 128 (0 : Int))).size = 128 := by rw [strOfNums_size, List.length_replicate]
      rw [beguinageref10_Bytes.l0, if_neg (by omega), hz, show wrap64 ((256 : Int) - ((128 : Nat) : Int)) = 128 by rw [w64 (by omega) (by omega)]; rfl, if_pos (by omega), show ((128 : Int)).toNat = 128 from rfl, if_pos (by omega), Option.bind_some, hz2, if_pos (by omega), strApp, block_pad, List.take_of_length_le (by omega)]
    | succ d ih =>
      intro i hi
      have him : i < (pad l).length := by omega
      obtain ⟨K, hK⟩ := ih (i + 1) (by omega)
      refine ⟨K + 5, fun k hk => ?_⟩
      obtain ⟨k, rfl⟩ : ∃ m, k = m + 1 := ⟨k - 1, by omega⟩
      have hk2 : K ≤ k := by omega
      have c1 : (i : Int) < 64 := by omega
      have c2 : 0 ≤ (i : Int) := by omega
      have hz : (strOfNums (flat2 ((pad l).take i))).size = 2 * i := by rw [strOfNums_size, flat2_length, List.length_take]; omega
      have hz2 : ∀ v, (strOfNums (ordF (IntKind.u64.wrap v) 2)).size = 2 := fun v => by rw [strOfNums_size, ordF_length]
      have hw : Aside0 (wrap64 ((i : Int) + 1) = ((i + 1 : Nat) : Int)) := Aside0.mk (by rw [w64 (by omega) (by omega)]; rfl)
      have e : strOfNums (flat2 ((pad l).take i)) ++ strOfNums (ordF (IntKind.u64.wrap (if i < l.length then rd l (i : Int) else 0)) 2) = strOfNums (flat2 ((pad l).take (i + 1))) := by
        rw [strApp, ← flat2_snoc, ← pad_at l i (by omega) him, List.take_append_getElem]
      rw [beguinageref10_Bytes.l0, if_pos c1]
      by_cases c : i < l.length
      · rw [if_pos c] at e
        rw [if_pos (by omega), if_pos c2, rput_two _ k (by omega), Option.bind_some, hz, hz2, if_pos (by omega), e, hw.out]
        exact hK k hk2
      · rw [if_neg c] at e
        rw [if_neg (by omega), rput_two _ k (by omega), Option.bind_some, hz, hz2, if_pos (by omega), e, hw.out]
        exact hK k hk2
  obtain ⟨K, hK⟩ := step 64 0 (by omega)
  exact ⟨K, fun k hk => hK k hk⟩

theorem all_true (x : Int) (l : List Int) (s : ByteArray) : ∃ K, ∀ k, K ≤ k → beguinagelaw10_SpanAll.j0 k x l s true = some true := by
  obtain ⟨K, hK⟩ := s_awake
  refine ⟨K + 1, fun k hk => ?_⟩
  obtain ⟨k, rfl⟩ : ∃ m, k = m + 1 := ⟨k - 1, by omega⟩
  rw [beguinagelaw10_SpanAll.j0, if_pos rfl, hK k (by omega), Option.bind_some]
theorem all_false (x : Int) (l : List Int) (s : ByteArray) (hl : l.length ≤ 700) : ∃ K, ∀ k, K ≤ k → beguinagelaw10_SpanAll.j0 k x l s false = some true := by
  obtain ⟨K0, hK0⟩ := s_awake
  obtain ⟨a, b, c, d, hway⟩ := way_same x
  obtain ⟨P, K1, K2, hP1, hP2, hPl⟩ : ∃ (P : List Int) (K1 K2 : Nat), (∀ k, K1 ≤ k → span_Pointers.f k s = some P) ∧ (∀ k, K2 ≤ k → beguinageref10_Pointers.f k s = some P) ∧ P.length ≤ 64 := by
    by_cases h : s.size = 256
    · obtain ⟨K1, h1⟩ := pointersS s h
      obtain ⟨K2, h2⟩ := rpointers s h
      exact ⟨_, K1, K2, h1, h2, by rw [ptrs_len]; omega⟩
    · refine ⟨[], 0, 0, fun k _ => ?_, fun k _ => ?_, by simp⟩
      · unfold span_Pointers.f; rw [if_neg (by omega)]
      · unfold beguinageref10_Pointers.f; rw [if_neg (by omega)]
  obtain ⟨K3, hS⟩ := same_self P (by omega)
  obtain ⟨K4, hB⟩ := rbytes l
  refine ⟨K0 + K1 + K2 + K3 + K4 + 2, fun k hk => ?_⟩
  obtain ⟨k, rfl⟩ : ∃ m, k = m + 1 := ⟨k - 1, by omega⟩
  obtain ⟨h1, h2⟩ := hway k (by omega)
  have f1 : span_Inds.f l = some (indsF l : Int) := rfl
  have f2 : beguinageref10_Inds.f l = some (indsF l : Int) := rfl
  have f3 : span_Bytes.f l = some (strOfNums (blockF l)) := rfl
  have f4 : span_Blocks.f x = beguinageref10_Blocks.f x := by
    unfold span_Blocks.f beguinageref10_Blocks.f mx mn
    congr 1
    omega
  obtain ⟨B, hB1⟩ : ∃ B, beguinageref10_Blocks.f x = some B := ⟨_, rfl⟩
  have c1 : ([] : List Int).length + l.length < 17592186044416 := by simp only [List.length_nil]; omega
  rw [beguinagelaw10_SpanAll.j0, if_neg Bool.false_ne_true, h1, Option.bind_some, h2, Option.bind_some]
  dsimp only
  rw [if_pos rfl, if_pos rfl, if_pos rfl, if_pos (by simp), if_pos c1, List.nil_append, f1, Option.bind_some, f2, Option.bind_some, if_pos rfl, f4, hB1, Option.bind_some, Option.bind_some, if_pos rfl,
    hP1 k (by omega), Option.bind_some, hP2 k (by omega), Option.bind_some, hS k (by omega), Option.bind_some, if_pos rfl, f3, Option.bind_some, hB k (by omega), Option.bind_some, if_pos rfl, hK0 k (by omega), Option.bind_some]

theorem SpanAll : beguinagelaw10_SpanAll.Pure := by
  intro x l s _ _ _ _ _
  by_cases h1 : (l.length : Int) > 700
  · obtain ⟨K, hK⟩ := all_true x l s
    refine ⟨K, ?_⟩
    unfold beguinagelaw10_SpanAll.f
    rw [if_pos h1]
    exact hK K (Nat.le_refl _)
  · by_cases h2 : (s.size : Int) > 1000
    · obtain ⟨K, hK⟩ := all_true x l s
      refine ⟨K, ?_⟩
      unfold beguinagelaw10_SpanAll.f
      rw [if_neg h1, decide_eq_true h2]
      exact hK K (Nat.le_refl _)
    · obtain ⟨K, hK⟩ := all_false x l s (by omega)
      refine ⟨K, ?_⟩
      unfold beguinagelaw10_SpanAll.f
      rw [if_neg h1, decide_eq_false h2]
      exact hK K (Nat.le_refl _)
end Go.Proofs.Ytbdghlneiblkcaa.Pure
