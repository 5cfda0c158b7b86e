/- BinOrder, the plain law: at any list of numbers and any n the printed function of the statement answers true. Conditions: the list's length as the row bounds it; its numbers and n are int's. -/
import Derived.Test.YtelbandiainkgaaPBinx6
import Derived.Test.YtelbandiainkgaaBinPlain
import Derived.Test.YtelbandiainkgaaSized
namespace Go.Proofs.Ytelbandiainkgaa.Pure
open Go.RowKit Go.Proofs.Ytelbandiainkgaa.PBin Go.Proofs.YtelbandiainkgaaW.PrintWords Go.Proofs.YtelbandiainkgaaW.PrintLast Go.Proofs.YtelbandiainkgaaW.PrintMore
open Go.Proofs.Ytelbandiainkgaa.Aid
set_option linter.unusedVariables false
set_option linter.unusedSimpArgs false
namespace Bo

theorem b_place (a : Int) {n : Int} (h0 : 0 < n) (h1 : n ≤ 9223372036854775807) : beguinagelaw00_Place.f a n = some (a % n) := place a h0 h1
theorem pow8 {j : Nat} (h0 : 1 ≤ j) (h1 : j ≤ 7) : (0 : Int) < 2 ^ (8 * j - 1) ∧ (2 : Int) ^ (8 * j - 1) ≤ 36028797018963968 ∧ (2 : Int) ^ (8 * j - 1) < 256 ^ j := by
  have : j = 1 ∨ j = 2 ∨ j = 3 ∨ j = 4 ∨ j = 5 ∨ j = 6 ∨ j = 7 := by omega
  rcases this with rfl | rfl | rfl | rfl | rfl | rfl | rfl <;> decide +kernel
theorem bound_eq {j : Nat} (h0 : 1 ≤ j) (h1 : j ≤ 7) : 0 ≤ IntKind.u64.wrap (wrap64 (wrap64 (8 * mn (j : Int) 7) - 1)) ∧ shl .i64 1 (IntKind.u64.wrap (wrap64 (wrap64 (8 * mn (j : Int) 7) - 1))) = 2 ^ (8 * j - 1) := by
  have : j = 1 ∨ j = 2 ∨ j = 3 ∨ j = 4 ∨ j = 5 ∨ j = 6 ∨ j = 7 := by omega
  rcases this with rfl | rfl | rfl | rfl | rfl | rfl | rfl <;> decide +kernel

def flat (j : Nat) (m : List Int) : List Int := m.flatMap fun v => ordF v j
theorem flat_length (j : Nat) (m : List Int) : (flat j m).length = j * m.length := by
  unfold flat
  induction m with
  | nil => rfl
  | cons v t ih => rw [List.flatMap_cons, List.length_append, ih, ordF_length, List.length_cons, Nat.mul_succ]; omega
theorem drop_chunk (v : Int) (t : List Int) (j q : Nat) : (ordF v j ++ t).drop (j + q) = t.drop q := by
  have h := List.drop_left (l₁ := ordF v j) (l₂ := t)
  rw [ordF_length] at h
  rw [← List.drop_drop, h]
theorem flat_drop (j : Nat) : ∀ (m : List Int) (i : Nat), i ≤ m.length → (flat j m).drop (i * j) = flat j (m.drop i) := by
  intro m
  induction m with
  | nil =>
    intro i hi
    have : i = 0 := by simpa using hi
    subst this
    simp
  | cons v t ih =>
    intro i hi
    cases i with
    | zero => simp
    | succ i =>
      rw [List.drop_succ_cons, ← ih i (by simpa using hi)]
      unfold flat
      rw [List.flatMap_cons, Nat.succ_mul, Nat.add_comm (i * j) j, drop_chunk]
theorem flat_at (j : Nat) (m : List Int) (i : Nat) (hi : i < m.length) : ((flat j m).drop (i * j)).take j = ordF m[i] j := by
  rw [flat_drop j m i (by omega), List.drop_eq_getElem_cons hi]
  unfold flat
  rw [List.flatMap_cons]
  have := List.take_left (l₁ := ordF m[i] j) (l₂ := (m.drop (i + 1)).flatMap fun v => ordF v j)
  rwa [ordF_length] at this

theorem awake_ev : ∃ K, ∀ k, K ≤ k → beguinagelaw03_awake.f k = some true := by
  have h : beguinagelaw03_awake.f 20 = some true := by decide +kernel
  exact ⟨20, fun k hk => at_rounds (fun k => beguinagelaw03_awake.mono k) hk h⟩

/-- What was made: the numbers, their bytes one behind the other. -/
structure Made (j : Nat) (s : ByteArray) (m : List Int) : Prop where
  b : bytesOf s = flat j m
  v : ∀ x, x ∈ m → 0 ≤ x ∧ x < 2 ^ (8 * j - 1)
  n : m.length ≤ 30

theorem look_end (j : Nat) (h0 : 1 ≤ j) (h1 : j ≤ 7) (s : ByteArray) (m : List Int) (hs : (s.size : Int) ≤ 4611686018427387904) (i : Nat) (hi : i + 0 = m.length) : ∃ K, ∀ k, K ≤ k → beguinagelaw03_BinOrder.l1 k (j : Int) s m (i : Int) = some true := by
  obtain ⟨K, haw⟩ := awake_ev
  refine ⟨K + 9, fun k hk => ?_⟩
  obtain ⟨k, rfl⟩ : ∃ m, k = m + 1 := ⟨k - 1, by omega⟩
  have g1 : bin_Get.f s (s.size : Int) 1 = some (0, false) := get_none hs (by omega)
  have g2 : bin_Get.f s (s.size : Int) 0 = some (0, true) := by rw [get_eq hs (by omega) (by omega) (by omega) (by omega)]; rfl
  have p1 : bin_Put.f k 5 (wrap64 (-(j : Int))) = some (strOfNums []) := by
    rw [put_eq _ _ (by omega), w64 (by omega) (by omega)]
    rw [show (mx 0 (mn (-(j : Int)) 7)).toNat = 0 from by unfold mx mn; omega]; rfl
  have p2 : bin_Put.f k 5 (wrap64 (7 + (j : Int))) = some (strOfNums (ordF (IntKind.u64.wrap 5) 7)) := by
    rw [put_eq _ _ (by omega), w64 (by omega) (by omega)]
    rw [show (mx 0 (mn (7 + (j : Int)) 7)).toNat = 7 from by unfold mx mn; omega]
  have hsz2 : ((strOfNums (ordF (IntKind.u64.wrap 5) 7)).size : Int) = 7 := by rw [strOfNums_size, ordF_length]; rfl
  have hnil : (strOfNums []).toList = ([] : List UInt8) := by decide +kernel
  rw [beguinagelaw03_BinOrder.l1, if_neg (by omega), g1, Option.bind_some, g2, Option.bind_some, if_neg Bool.false_ne_true, if_pos rfl, if_pos rfl, p1, Option.bind_some, if_pos hnil, p2, Option.bind_some, if_pos hsz2, haw k (by omega), Option.bind_some]

theorem look_get (j : Nat) (h0 : 1 ≤ j) (h1 : j ≤ 7) (s : ByteArray) (m : List Int) (M : Made j s m) (i q : Nat) (hlt : i < m.length) (hq : i * j = q) (hs : (s.size : Int) ≤ 4611686018427387904) (c5' : q + j ≤ s.size) (hv : 0 ≤ m[i] ∧ m[i] < 2 ^ (8 * j - 1)) : bin_Get.f s (q : Int) (j : Int) = some (m[i], true) := by
  have hv2 : m[i] < 256 ^ j := Int.lt_trans hv.2 (pow8 h0 h1).2.2
  have c3 : 0 ≤ (q : Int) := by omega
  have c5 : (q : Int) + (j : Int) ≤ (s.size : Int) := by omega
  have c6 : 0 ≤ (j : Int) := by omega
  have c7 : (j : Int) ≤ 7 := by omega
  rw [get_eq hs c6 c7 c3 c5, Int.toNat_natCast, Int.toNat_natCast, M.b, ← hq, flat_at j m i hlt, numF_ordF j _ hv.1 hv2]

theorem look_byte (j : Nat) (h0 : 1 ≤ j) (s : ByteArray) (m : List Int) (M : Made j s m) (i q : Nat) (hlt : i < m.length) (hq : i * j = q) : bt s (q : Int) = m[i] % 256 := by
  rw [← rd_bytesOf, M.b]
  unfold rd
  rw [Int.toNat_natCast, List.getD_eq_getElem?_getD]
  have e1 : (flat j m)[i * j]? = ((flat j m).drop (i * j))[0]? := by rw [List.getElem?_drop]; simp
  rw [← hq, e1]
  have e2 : ((flat j m).drop (i * j))[0]? = (((flat j m).drop (i * j)).take j)[0]? := by rw [List.getElem?_take_of_lt (by omega)]
  rw [e2, flat_at j m i hlt]
  have e3 : ∀ x : Int, ∀ p : Nat, 1 ≤ p → (ordF x p)[0]?.getD 0 = x % 256 := by
    intro x p hp
    cases p with
    | zero => omega
    | succ p => rfl
  exact e3 _ j h0

theorem look (j : Nat) (h0 : 1 ≤ j) (h1 : j ≤ 7) (s : ByteArray) (m : List Int) (M : Made j s m) (d : Nat) : ∀ i : Nat, i + d = m.length → ∃ K, ∀ k, K ≤ k → beguinagelaw03_BinOrder.l1 k (j : Int) s m (i : Int) = some true := by
  have hsz : s.size = j * m.length := by rw [← bytesOf_length, M.b, flat_length]
  have hjm : j * m.length ≤ 7 * 30 := Nat.mul_le_mul h1 M.n
  have hs : (s.size : Int) ≤ 4611686018427387904 := by omega
  induction d with
  | zero =>
    intro i hi
    exact look_end j h0 h1 s m hs i hi
  | succ d ih =>
    intro i hi
    obtain ⟨K, hk⟩ := ih (i + 1) (by omega)
    refine ⟨K + 1, fun k hkk => ?_⟩
    obtain ⟨k, rfl⟩ : ∃ m, k = m + 1 := ⟨k - 1, by omega⟩
    have hlt : i < m.length := by omega
    have hij : i * j + j ≤ j * m.length := by
      have := Nat.mul_le_mul_left j (show i + 1 ≤ m.length by omega)
      rw [Nat.mul_succ, Nat.mul_comm j i] at this; omega
    have hmn := M.n
    have hv := M.v m[i] (List.getElem_mem hlt)
    obtain ⟨q, hq⟩ : ∃ q, i * j = q := ⟨_, rfl⟩
    rw [hq] at hij
    have hij2 : q + j ≤ s.size := by omega
    have c1 : (i : Int) < (m.length : Int) := by omega
    have c2 : 0 ≤ (i : Int) := by omega
    have c3 : 0 ≤ (q : Int) := by omega
    have c4 : (q : Int) < (s.size : Int) := by omega
    have c5 : (q : Int) + (j : Int) ≤ (s.size : Int) := by omega
    have c6 : 0 ≤ (j : Int) := by omega
    have c7 : (j : Int) ≤ 7 := by omega
    have hrd : rd m (i : Int) = m[i] := by
      unfold rd
      rw [Int.toNat_natCast, List.getD_eq_getElem?_getD, List.getElem?_eq_getElem hlt]; rfl
    have hget := look_get j h0 h1 s m M i q hlt hq hs hij2 hv
    have hbt := look_byte j h0 s m M i q hlt hq
    have hm0 := Int.emod_nonneg m[i] (show (256 : Int) ≠ 0 by omega)
    have hm1 := Int.emod_lt_of_pos m[i] (show (0 : Int) < 256 by omega)
    have hK : K ≤ k := by omega
    have hw3 : Aside0 (wrap64 (m[i] % 256) = m[i] % 256) := Aside0.mk (w64 (by omega) (by omega))
    have hmul : Aside0 (wrap64 ((i : Int) * (j : Int)) = (q : Int)) := Aside0.mk (by
      rw [show ((i : Int) * (j : Int)) = ((i * j : Nat) : Int) by simp, hq]; exact w64 (by omega) (by omega))
    have hw : Aside0 (wrap64 ((i : Int) + 1) = ((i + 1 : Nat) : Int)) := Aside0.mk (by rw [w64 (by omega) (by omega)]; rfl)
    rw [beguinagelaw03_BinOrder.l1, if_pos c1, hmul.out, hget]
    simp only [Option.bind_some]
    rw [if_pos trivial, if_pos c2, hrd, if_pos rfl, if_pos c3, if_pos c4, hbt, hw3.out, tmod_pos' _ hv.1, if_pos rfl, hw.out]
    exact hk k hK

theorem done_ (j : Nat) (h0 : 1 ≤ j) (h1 : j ≤ 7) (l : List Int) (s : ByteArray) (m : List Int) (M : Made j s m) (i : Int) : ∃ K, ∀ k, K ≤ k → beguinagelaw03_BinOrder.j1 k l (j : Int) s m i false = some true := by
  obtain ⟨K, hk⟩ := look j h0 h1 s m M m.length 0 (by omega)
  have hsz : s.size = j * m.length := by rw [← bytesOf_length, M.b, flat_length]
  have hjm : j * m.length ≤ 7 * 30 := Nat.mul_le_mul h1 M.n
  refine ⟨K + 1, fun k hkk => ?_⟩
  obtain ⟨k, rfl⟩ : ∃ m, k = m + 1 := ⟨k - 1, by omega⟩
  rw [beguinagelaw03_BinOrder.j1, if_neg (by simp), if_pos]
  · exact hk k (by omega)
  · rw [show ((j : Int) * (m.length : Int)) = ((j * m.length : Nat) : Int) by simp, w64 (by omega) (by omega), hsz]

theorem make_ (j : Nat) (h0 : 1 ≤ j) (h1 : j ≤ 7) (l : List Int) (d : Nat) : ∀ (i : Nat) (s : ByteArray) (m : List Int), i + d = 30 → m.length = i → Made j s m →
    ∃ K, ∀ k, K ≤ k → beguinagelaw03_BinOrder.l0 k l (j : Int) s m (i : Int) = some true := by
  induction d with
  | zero =>
    intro i s m hi hm M
    obtain ⟨K, hk⟩ := done_ j h0 h1 l s m M i
    refine ⟨K + 1, fun k hkk => ?_⟩
    obtain ⟨k, rfl⟩ : ∃ m, k = m + 1 := ⟨k - 1, by omega⟩
    rw [beguinagelaw03_BinOrder.l0, decide_eq_false (by omega)]
    split <;> exact hk k (by omega)
  | succ d ih =>
    intro i s m hi hm M
    by_cases hlt : (i : Int) < (l.length : Int)
    · obtain ⟨hp0, hp1, hp2⟩ := pow8 h0 h1
      obtain ⟨P, hP⟩ : ∃ P, (2 : Int) ^ (8 * j - 1) = P := ⟨_, rfl⟩
      have H0 := Aside0.mk (bound_eq h0 h1).1
      have H1 := Aside0.mk ((bound_eq h0 h1).2.trans hP)
      rw [hP] at hp0 hp1 hp2
      have v0 := Int.emod_nonneg (rd l i) (show P ≠ 0 by omega)
      have v1 := Int.emod_lt_of_pos (rd l i) hp0
      have hpl := b_place (rd l i) (n := P) hp0 (by omega)
      generalize rd l (i : Int) % P = v at *
      have hput : ∀ k, 8 ≤ k → bin_Put.f k v (j : Int) = some (strOfNums (ordF v j)) := by
        intro k hk
        rw [put_eq _ _ hk, u64_id v0 (by omega), show (mx 0 (mn (j : Int) 7)).toNat = j from by unfold mx mn; omega]
      have hsz : s.size = j * m.length := by rw [← bytesOf_length, M.b, flat_length]
      have hjm : j * m.length ≤ 7 * 30 := Nat.mul_le_mul h1 M.n
      have M' : Made j (s ++ strOfNums (ordF v j)) (m ++ [v]) := by
        refine ⟨?_, ?_, by rw [List.length_append]; simp; omega⟩
        · rw [bytesOf_append, M.b, bytesOf_strOfNums (byt_ordF j v)]
          unfold flat
          rw [List.flatMap_append]; simp
        · intro x hx
          rcases List.mem_append.1 hx with h | h
          · exact M.v x h
          · rw [List.mem_singleton.1 h, hP]; exact ⟨v0, v1⟩
      obtain ⟨K, hk⟩ := ih (i + 1) _ _ (by omega) (by rw [List.length_append]; simp; omega) M'
      refine ⟨K + 10, fun k hkk => ?_⟩
      obtain ⟨k, rfl⟩ : ∃ m, k = m + 1 + 1 := ⟨k - 2, by omega⟩
      have c1 : (i : Int) < 30 := by omega
      have c2 : 0 ≤ (i : Int) := by omega
      have c3 : m.length < 17592186044416 := by omega
      have c4 : 8 ≤ k := by omega
      have c5 : K ≤ k := by omega
      have c6 : s.size + (strOfNums (ordF v j)).size ≤ 9223372036854775807 := by rw [strOfNums_size, ordF_length]; omega
      have hw : wrap64 ((i : Int) + 1) = ((i + 1 : Nat) : Int) := by rw [w64 (by omega) (by omega)]; rfl
      rw [beguinagelaw03_BinOrder.l0, if_pos hlt, decide_eq_true c1, beguinagelaw03_BinOrder.j1, if_pos rfl, if_pos c2, if_pos hlt, if_pos H0.out, H1.out, hpl]
      simp only [Option.bind_some]
      rw [if_pos c3, hput k c4]
      simp only [Option.bind_some]
      rw [if_pos c6, hw]
      exact hk k c5
    · obtain ⟨K, hk⟩ := done_ j h0 h1 l s m M i
      refine ⟨K + 1, fun k hkk => ?_⟩
      obtain ⟨k, rfl⟩ : ∃ m, k = m + 1 := ⟨k - 1, by omega⟩
      rw [beguinagelaw03_BinOrder.l0, if_neg hlt]
      exact hk k (by omega)
end Bo

theorem BinOrder : beguinagelaw03_BinOrder.Pure := by
  intro l a1 _ _ _ _
  have q0 := Int.emod_nonneg a1 (show (7 : Int) ≠ 0 by omega)
  have q1 := Int.emod_lt_of_pos a1 (show (0 : Int) < 7 by omega)
  obtain ⟨j, hj⟩ := Int.eq_ofNat_of_zero_le (show 0 ≤ 1 + a1 % 7 by omega)
  obtain ⟨K, hk⟩ := Bo.make_ j (by omega) (by omega) l 30 0 ⟨#[]⟩ [] (by omega) rfl ⟨rfl, (fun x hx => by cases hx), by simp⟩
  refine ⟨K, ?_⟩
  unfold beguinagelaw03_BinOrder.f
  rw [Bo.b_place a1 (by omega) (by omega)]
  simp only [Option.bind_some]
  rw [w64 (by omega) (by omega), hj]
  exact hk K (Nat.le_refl _)
end Go.Proofs.Ytelbandiainkgaa.Pure
