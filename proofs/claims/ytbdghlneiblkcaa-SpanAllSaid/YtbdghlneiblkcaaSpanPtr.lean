/- Plain lemmas on span's pure functions: ways are unlike, pointers there and back. -/
import Derived.Test.YtbdghlneiblkcaaSpanPlain
import Derived.Test.YtbdghlneiblkcaaSpanBytes
import Derived.Test.YtbdghlneiblkcaaPSpanx9
import Derived.Test.YtbdghlneiblkcaaPSpanx7
namespace Go.Proofs.Ytbdghlneiblkcaa.PSpan
open Go.RowKit Go.Proofs.YtbdghlneiblkcaaW.PrintWords Go.Proofs.YtbdghlneiblkcaaW.PrintLast Go.Proofs.YtbdghlneiblkcaaW.PrintMore
open Go.Proofs.Ytbdghlneiblkcaa.Aid
set_option linter.unusedVariables false
set_option linter.unusedSimpArgs false

theorem same_self (l : List Int) (hl : l.length ≤ 4611686018427387904) : ∃ K, ∀ k, K ≤ k → beguinagelaw00_SameInts.f k l l = some true := by
  have step : ∀ d i : Nat, i + d = l.length → ∃ K, ∀ k, K ≤ k → beguinagelaw00_SameInts.l0 k l l (i : Int) = some true := by
    intro d
    induction d with
    | zero =>
      intro i hi
      refine ⟨1, fun k hk => ?_⟩
      obtain ⟨k, rfl⟩ : ∃ m, k = m + 1 := ⟨k - 1, by omega⟩
      rw [beguinagelaw00_SameInts.l0, if_neg (by omega)]
    | succ d ih =>
      intro i hi
      obtain ⟨K, hK⟩ := ih (i + 1) (by omega)
      refine ⟨K + 1, fun k hk => ?_⟩
      obtain ⟨k, rfl⟩ : ∃ m, k = m + 1 := ⟨k - 1, by omega⟩
      have hk2 : K ≤ k := by omega
      have c1 : (i : Int) < (l.length : Int) := by omega
      have c2 : 0 ≤ (i : Int) := by omega
      have hw : Aside0 (wrap64 ((i : Int) + 1) = ((i + 1 : Nat) : Int)) := Aside0.mk (by rw [w64 (by omega) (by omega)]; rfl)
      rw [beguinagelaw00_SameInts.l0, if_pos c1, if_pos c2, if_pos c1, if_pos rfl, hw.out]
      exact hK k hk2
  obtain ⟨K, hK⟩ := step l.length 0 (by omega)
  refine ⟨K, fun k hk => ?_⟩
  unfold beguinagelaw00_SameInts.f
  rw [if_pos rfl]
  exact hK k hk

/-- The way of a block. -/
def kindF (x : Int) : Int := if x ≥ 76 then 2 else if x ≥ 12 then 1 else 0
def kidF (x : Int) : Int := if x ≥ 76 then (x - 76) / 64 else 0
def atF (x : Int) : Int := if x ≥ 12 then (x - 12) % 64 else x
theorem way_f (x : Int) (h0 : 0 ≤ x) (h1 : x < 588) : ∀ k, 1 ≤ k → span_Way.f k x = some (kindF x, kidF x, atF x, true) := by
  have key : span_Way.f 1 x = some (kindF x, kidF x, atF x, true) := by
    unfold kindF kidF atF
    by_cases c1 : x ≥ 76
    · have hw : wrap64 (x - 12) = x - 12 := w64 (by omega) (by omega)
      rw [if_pos c1, if_pos c1, if_pos (show x ≥ 12 by omega), way_dbl (by unfold isD; rw [decide_eq_true (show 76 ≤ x from c1), decide_eq_true h1]; rfl), hw, tmod_pos' _ (by omega)]
      rfl
    · by_cases c2 : x ≥ 12
      · have hw : wrap64 (x - 12) = x - 12 := w64 (by omega) (by omega)
        rw [if_neg c1, if_neg c1, if_pos c2, if_pos c2, way_sgl (by unfold isS; rw [decide_eq_true (show 12 ≤ x from c2), decide_eq_true (show x < 76 by omega)]; rfl), hw, tmod_pos' _ (by omega)]
      · rw [if_neg c1, if_neg c1, if_neg c2, if_neg c2]
        exact way_str h0 (by omega)
  exact fun k hk => at_rounds (fun k => span_Way.mono x k) hk key
theorem way_no (x : Int) (h : 588 ≤ x) : ∀ k, 1 ≤ k → span_Way.f k x = some (0, 0, 0, false) :=
  fun k hk => at_rounds (fun k => span_Way.mono x k) hk (way_none (Or.inr h))
theorem way_bd (x : Int) (h0 : 0 ≤ x) (h1 : x < 588) : 0 ≤ atF x ∧ atF x < 64 ∧ 0 ≤ kidF x ∧ kidF x < 8 ∧ 0 ≤ kindF x ∧ kindF x ≤ 2 ∧ (kindF x = 0 → atF x < 12) ∧ (kindF x ≠ 2 → kidF x = 0) := by
  unfold atF kidF kindF
  by_cases c1 : x ≥ 76
  · rw [if_pos c1, if_pos c1, if_pos (show x ≥ 12 by omega)]; omega
  · by_cases c2 : x ≥ 12
    · rw [if_neg c1, if_neg c1, if_pos c2, if_pos c2]; omega
    · rw [if_neg c1, if_neg c1, if_neg c2, if_neg c2]; omega
theorem way_inj (x y : Int) (h0 : 0 ≤ x) (h1 : x < 588) (h2 : 0 ≤ y) (h3 : y < 588) (e1 : kindF x = kindF y) (e2 : kidF x = kidF y) (e3 : atF x = atF y) : x = y := by
  unfold kindF at e1
  unfold kidF at e2
  unfold atF at e3
  by_cases c1 : x ≥ 76
  · rw [if_pos c1] at e1 e2
    rw [if_pos (show x ≥ 12 by omega)] at e3
    by_cases d1 : y ≥ 76
    · rw [if_pos d1] at e2
      rw [if_pos (show y ≥ 12 by omega)] at e3
      omega
    · rw [if_neg d1] at e1
      by_cases d2 : y ≥ 12
      · rw [if_pos d2] at e1; omega
      · rw [if_neg d2] at e1; omega
  · rw [if_neg c1] at e1
    by_cases d1 : y ≥ 76
    · rw [if_pos d1] at e1
      by_cases c2 : x ≥ 12
      · rw [if_pos c2] at e1; omega
      · rw [if_neg c2] at e1; omega
    · rw [if_neg d1] at e1
      by_cases c2 : x ≥ 12
      · rw [if_pos c2] at e1 e3
        by_cases d2 : y ≥ 12
        · rw [if_pos d2] at e3; omega
        · rw [if_neg d2] at e1; omega
      · rw [if_neg c2] at e1 e3
        by_cases d2 : y ≥ 12
        · rw [if_pos d2] at e1; omega
        · rw [if_neg d2] at e3; exact e3

theorem flat_drop (m : List Int) : ∀ i : Nat, i ≤ m.length → (flat2 m).drop (2 * i) = flat2 (m.drop i) := by
  induction m with
  | nil =>
    intro i hi
    have : i = 0 := by simpa using hi
    subst this; rfl
  | cons v t ih =>
    intro i hi
    cases i with
    | zero => rfl
    | succ i =>
      rw [List.drop_succ_cons, ← ih i (by simpa using hi)]
      unfold flat2
      rw [List.flatMap_cons, show 2 * (i + 1) = (ordF (IntKind.u64.wrap v) 2).length + 2 * i by rw [ordF_length]; omega, ← List.drop_drop, List.drop_left]
theorem chunk (m : List Int) (z : List Int) (i : Nat) (hi : i < m.length) : ((flat2 m ++ z).drop (2 * i)).take 2 = ordF (IntKind.u64.wrap m[i]) 2 := by
  have hl := flat2_length m
  rw [List.drop_append_of_le_length (by omega), flat_drop m i (by omega), List.drop_eq_getElem_cons hi]
  unfold flat2
  rw [List.flatMap_cons, List.append_assoc]
  have := List.take_left (l₁ := ordF (IntKind.u64.wrap m[i]) 2) (l₂ := (List.flatMap (fun v => ordF (IntKind.u64.wrap v) 2) (m.drop (i + 1))) ++ z)
  rwa [ordF_length] at this

theorem byt_flat2 (m : List Int) : Byt (flat2 m) := by
  intro b hb
  unfold flat2 at hb
  obtain ⟨v, _, hv⟩ := List.mem_flatMap.1 hb
  exact byt_ordF 2 _ b hv
theorem byt_block (m : List Int) : Byt (blockF m) := by
  intro b hb
  unfold blockF at hb
  rcases List.mem_append.1 hb with h | h
  · exact byt_flat2 _ b h
  · obtain ⟨_, rfl⟩ := List.mem_replicate.1 h
    omega

/-- Pointers of a block of 64 numbers: these numbers. -/
theorem pointers (m : List Int) (hm : m.length = 64) (hv : ∀ x ∈ m, 0 ≤ x ∧ x < 65536) : ∃ K, ∀ k, K ≤ k → span_Pointers.f k (strOfNums (blockF m)) = some m := by
  have hbl : blockF m = flat2 m ++ List.replicate 128 0 := by
    unfold blockF
    rw [List.take_of_length_le (by omega), hm]
  have hlen : (blockF m).length = 256 := by rw [hbl, List.length_append, flat2_length, List.length_replicate, hm]
  have hsz : (strOfNums (blockF m)).size = 256 := by rw [strOfNums_size, hlen]
  have hb : bytesOf (strOfNums (blockF m)) = blockF m := bytesOf_strOfNums (byt_block m)
  have hget : ∀ i : Nat, (hi : i < m.length) → bin_Get.f (strOfNums (blockF m)) ((2 * i : Nat) : Int) 2 = some (m[i], true) := by
    intro i hi
    have hx := hv m[i] (List.getElem_mem hi)
    rw [get_eq (by rw [hsz]; omega) (by omega) (by omega) (by omega) (by rw [hsz]; omega), hb, Int.toNat_natCast, hbl, show (2 : Int).toNat = 2 from rfl, chunk m _ i hi, u64_id hx.1 (by omega), numF_ordF 2 _ hx.1 (by omega)]
  generalize strOfNums (blockF m) = s at hsz hget
  have step : ∀ d i : Nat, i + d = 64 → ∀ x3 : List Int, x3.length = 64 → (∀ j, j < i → x3[j]? = m[j]?) → ∃ K, ∀ k, K ≤ k → span_Pointers.l0 k s x3 64 (i : Int) = some m := by
    intro d
    induction d with
    | zero =>
      intro i hi x3 hx hj
      obtain rfl : i = 64 := by omega
      have e : x3 = m := by
        apply List.ext_getElem?
        intro j
        by_cases h : j < 64
        · exact hj j h
        · rw [List.getElem?_eq_none (by omega), List.getElem?_eq_none (by omega)]
      refine ⟨1, fun k hk => ?_⟩
      obtain ⟨k, rfl⟩ : ∃ m, k = m + 1 := ⟨k - 1, by omega⟩
      rw [span_Pointers.l0, if_neg (by omega), e]
    | succ d ih =>
      intro i hi x3 hx hj
      have him : i < m.length := by omega
      obtain ⟨K, hK⟩ := ih (i + 1) (by omega) (x3.set i m[i]) (by rw [List.length_set]; exact hx) (fun j hj2 => by
        by_cases e : j = i
        · subst e
          rw [List.getElem?_set_self (by omega), List.getElem?_eq_getElem him]
        · rw [List.getElem?_set_ne (by omega)]
          exact hj j (by omega))
      refine ⟨K + 1, fun k hk => ?_⟩
      obtain ⟨k, rfl⟩ : ∃ m, k = m + 1 := ⟨k - 1, by omega⟩
      have hk2 : K ≤ k := by omega
      have c1 : (i : Int) < 64 := by omega
      have c2 : 0 ≤ (i : Int) := by omega
      have c3 : (i : Int) < (x3.length : Int) := by omega
      have hw : Aside0 (wrap64 ((i : Int) + 1) = ((i + 1 : Nat) : Int)) := Aside0.mk (by rw [w64 (by omega) (by omega)]; rfl)
      have hw2 : Aside0 (wrap64 (2 * (i : Int)) = ((2 * i : Nat) : Int)) := Aside0.mk (by rw [w64 (by omega) (by omega)]; omega)
      rw [span_Pointers.l0, if_pos c1, hw2.out, hget i him, Option.bind_some, if_pos c2, if_pos c3, hw.out, Int.toNat_natCast]
      exact hK k hk2
  obtain ⟨K, hK⟩ := step 64 0 (by omega) (List.replicate 64 0) (List.length_replicate ..) (fun j hj => by omega)
  refine ⟨K, fun k hk => ?_⟩
  unfold span_Pointers.f
  rw [if_pos (by rw [hsz]; rfl), if_pos (by omega), Option.bind_some, List.length_replicate]
  exact hK k hk

end Go.Proofs.Ytbdghlneiblkcaa.PSpan
