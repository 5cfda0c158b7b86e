/- ImapWrong answers true for all numbers: bytes that no map could say are not taken, and nothing is turned. Conditions: none. -/
import Derived.Test.YtbdghlneiblkcaaImapE
namespace Go.Proofs.Ytbdghlneiblkcaa.Pure
open Go.RowKit Go.Proofs.YtbdghlneiblkcaaW.PrintWords Go.Proofs.YtbdghlneiblkcaaW.PrintLast Go.Proofs.YtbdghlneiblkcaaW.PrintMore
open Go.Proofs.Ytbdghlneiblkcaa.Aid Go.Proofs.Ytbdghlneiblkcaa.Imap Go.Proofs.Ytbdghlneiblkcaa.PSpan
set_option linter.unusedVariables false
set_option linter.unusedSimpArgs false

def zs (n : Nat) : List Int := List.replicate n 0
def zeroS : ByteArray := strOfNums (zs 256)
theorem byt_zs (n : Nat) : Byt (zs n) := fun b hb => by obtain ⟨_, rfl⟩ := List.mem_replicate.1 hb; omega
theorem byt_set (l : List Int) (j : Nat) (v : Int) (h : Byt l) (hv : 0 ≤ v ∧ v ≤ 255) : Byt (l.set j v) := fun b hb => by
  rcases List.mem_or_eq_of_mem_set hb with h1 | h1
  · exact h b h1
  · rw [h1]; exact hv
theorem zero_size : zeroS.size = 256 := by unfold zeroS; rw [strOfNums_size]; exact List.length_replicate
set_option maxHeartbeats 1000000 in
theorem zero_calls (w : World) : Calls Try.prog 38 #[] w fun e w' => e = .returned (.string zeroS) ∧ Below w.heap.size w w' := by
  obtain ⟨i5, hi5, hz5, hs5, hb5⟩ := info_parts info5
  have hmk : ∀ W : World, (Instr.makeSlice 48 (.int .i64 256) (.int .i64 256)).run Try.prog W = .ok (.slice (some ⟨W.heap.size, 0, none⟩) 256 256) (W.alloc (.cells (madeCells #[.int .u8 0] 256) 5)) := fun W => by
    have h := run_make (P := Try.prog) W 48 5 i5 (.int .u8 0) Try.underlying48 hi5 hz5 .i64 .i64 256 256 (by omega) (by omega) (by rw [hb5]; omega) (by omega)
    rw [hs5] at h
    exact h
  have hcv : (convert 48 9 (.slice (some ⟨w.heap.size, 0, none⟩) 256 256)).run Try.prog (w.alloc (.cells (madeCells #[.int .u8 0] 256) 5)) = .ok (.string zeroS) (w.alloc (.cells (madeCells #[.int .u8 0] 256) 5)) := by
    refine run_convert_bytes_arg _ 48 5 Try.underlying48 Try.underlying5 w.heap.size 0 256 256 (zs 256) List.length_replicate (fun i hi => ?_) 9 Try.underlying9
    rw [cell_of_row _ _ _ _ 5 (0, 0) (heap_alloc_last w _)]
    have e1 : (zs 256).getD i 0 = 0 := by
      unfold zs
      rw [List.getD_eq_getElem?_getD, List.getElem?_replicate, if_pos hi]; rfl
    rw [e1]
    have hm : madeCells #[Value.int .u8 0] 256 = Array.replicate 256 (Value.int .u8 0) := by kernel_rfl
    rw [Nat.zero_add, hm, Array.getElem?_replicate, if_pos hi]
  generalize zeroS = Z at *
  generalize madeCells #[Value.int .u8 0] 256 = C at *
  go_enter Try.func38, Try.ntmps38
  go_wp2
  go_ret
  exact ⟨rfl, (Below.refl _ _).alloc (Nat.le_refl _) _⟩

/-- The block of a text's bytes, before and behind a store. -/
def Bt (W : World) (b : Nat) (xs : List Int) : Prop := (∀ j, j < xs.length → W.cell? ⟨b, j, none⟩ = some (.int .u8 (xs.getD j 0))) ∧ (∀ j, j < xs.length → W.frozen? ⟨b, j, none⟩ = false)
theorem bt_new (W : World) : Bt (Lib.bytesWorld W 5 zeroS) W.heap.size (zs 256) := by
  have hsz := zero_size
  refine ⟨fun j hj => ?_, fun j hj => ?_⟩
  · have hj2 : j < 256 := by unfold zs at hj; rwa [List.length_replicate] at hj
    rw [Lib.bytesWorld_cell W 5 zeroS j (by rw [hsz]; exact hj2)]
    have hall : ∀ j, j < 256 → (zeroS.data.toList.getD j 0) = 0 := by decide +kernel
    rw [hall j hj2]
    unfold zs
    rw [List.getD_eq_getElem?_getD, List.getElem?_replicate, if_pos hj2]; rfl
  · have hj2 : j < 256 := by unfold zs at hj; rwa [List.length_replicate] at hj
    have hsz2 : 256 ≤ (Lib.bytesCells W 5 zeroS).size := by
      unfold Lib.bytesCells
      rw [Array.size_append, Array.size_map]
      have : zeroS.data.size = 256 := hsz
      omega
    simp only [World.frozen?, Lib.bytesWorld_at_new]
    simp
    omega
theorem bt_string {W : World} {b : Nat} {xs : List Int} (h : Bt W b xs) (c : Nat) : (convert 48 9 (.slice (some ⟨b, 0, none⟩) xs.length c)).run Try.prog W = .ok (.string (strOfNums xs)) W :=
  run_convert_bytes_arg _ 48 5 Try.underlying48 Try.underlying5 b 0 xs.length c xs rfl (fun i hi => by rw [Nat.zero_add]; exact h.1 i hi) 9 Try.underlying9
theorem bt_set {W : World} {b : Nat} {xs : List Int} (h : Bt W b xs) (j : Nat) (v : Int) (hj : j < xs.length) : Bt (W.setCell ⟨b, j, none⟩ (.int .u8 v)) b (xs.set j v) := by
  refine ⟨fun k hk => ?_, fun k hk => ?_⟩
  · rw [List.length_set] at hk
    rw [List.getD_eq_getElem?_getD, List.getElem?_set]
    by_cases e : j = k
    · subst e
      rw [if_pos rfl, if_pos hj, World.cell?_setCell_same W _ _ (h.1 j hj)]; rfl
    · rw [if_neg e, World.cell?_setCell_other W _ _ _ (by intro h2; injection h2 with _ h3 _; exact e h3), h.1 k hk, List.getD_eq_getElem?_getD]
  · rw [List.length_set] at hk
    rw [World.frozen?_setCell]
    exact h.2 k hk

theorem bt_grown {W W' : World} {b : Nat} {xs : List Int} (h : Bt W b xs) {row : Option Nat} (hg : W.grownBy W' row) (hb : b < W.heap.size) (hne : some b ≠ row) : Bt W' b xs :=
  ⟨fun j hj => (hg.cell_far ⟨b, j, none⟩ hb hne).trans (h.1 j hj), fun j hj => (hg.frozen_far ⟨b, j, none⟩ hb hne).trans (h.2 j hj)⟩
theorem gv_two (xs : List Int) (hb : Byt xs) (i : Nat) (hi : 2 * i + 2 ≤ xs.length) : gv (strOfNums xs) i = xs.getD (2 * i) 0 + 256 * xs.getD (2 * i + 1) 0 := by
  unfold gv
  rw [if_pos (by rw [strOfNums_size]; exact hi), bytesOf_extract, bytesOf_strOfNums hb, show 2 * i + 2 - 2 * i = 2 by omega,
    List.drop_eq_getElem_cons (show 2 * i < xs.length by omega), List.drop_eq_getElem_cons (show 2 * i + 1 < xs.length by omega)]
  simp only [List.take_succ_cons, List.take_zero, numF]
  rw [List.getD_eq_getElem?_getD, List.getD_eq_getElem?_getD, List.getElem?_eq_getElem (show 2 * i < xs.length by omega), List.getElem?_eq_getElem (show 2 * i + 1 < xs.length by omega)]
  simp only [Option.getD_some]
  omega
theorem zs_len (n : Nat) : (zs n).length = n := List.length_replicate
theorem zset_at (n j k : Nat) (v : Int) (hj : j < n) (hk : k < n) : ((zs n).set j v).getD k 0 = if j = k then v else 0 := by
  rw [List.getD_eq_getElem?_getD, List.getElem?_set, zs_len]
  unfold zs
  rw [List.getElem?_replicate]
  by_cases e : j = k
  · rw [if_pos e, if_pos hj, if_pos e]; rfl
  · rw [if_neg e, if_neg e, if_pos hk]; rfl
theorem no0 (L : List Int) (hL : L.length = 256) (p a : Nat) (hp : p < 4) (ha : a < 128) : ¬ takes L p (strOfNums ((zs 256).set (128 + a) 1)) := fun ⟨_, h⟩ => by
  have hb := congrArg bytesOf h
  rw [put_bytes _ p (newTo_len _ _ _ _) hp, bytesOf_strOfNums (byt_set _ _ _ (byt_zs _) (by omega))] at hb
  have hx : (flat2 (partF (newTo L p (strOfNums ((zs 256).set (128 + a) 1)) 64) p) ++ List.replicate 128 0).getD (128 + a) 0 = ((zs 256).set (128 + a) 1).getD (128 + a) 0 := by rw [hb]
  rw [zset_at _ _ _ _ (by omega) (by omega), if_pos rfl, List.getD_eq_getElem?_getD, List.getElem?_append_right (by rw [flat2_length, partF_len _ _ (newTo_len _ _ _ _) hp]; omega), List.getElem?_replicate] at hx
  split at hx <;> simp at hx
theorem no1 (L : List Int) (p a : Nat) (ha : a < 64) : ¬ takes L p (strOfNums ((zs 256).set (2 * a + 1) 64)) := fun ⟨h, _⟩ => by
  have h1 := (h a ha).1
  rw [gv_two _ (byt_set _ _ _ (byt_zs _) (by omega)) a (by rw [List.length_set, zs_len]; omega), zset_at _ _ _ _ (by omega) (by omega), zset_at _ _ _ _ (by omega) (by omega), if_neg (by omega), if_pos rfl] at h1
  omega
theorem no2 (L : List Int) : ¬ takes L 0 (strOfNums ((zs 256).set 0 9)) := fun ⟨h, _⟩ => by
  have h1 := (h 0 (by omega)).2 (by omega)
  rw [gv_two _ (byt_set _ _ _ (byt_zs _) (by omega)) 0 (by rw [List.length_set, zs_len]; omega), zset_at _ _ _ _ (by omega) (by omega), zset_at _ _ _ _ (by omega) (by omega), if_pos rfl, if_neg (by omega)] at h1
  omega
theorem no3 (L : List Int) (p : Nat) (hp : p < 4) : ¬ takes L p (strOfNums (zs 255)) := fun ⟨_, h⟩ => by
  have hb := congrArg ByteArray.size h
  rw [put_size _ p (newTo_len _ _ _ _) hp, strOfNums_size, zs_len] at hb
  omega

def L5 : List Int := Z256.set 5 77
theorem L5_len : L5.length = 256 := by unfold L5; rw [List.length_set]; exact Z256_len
theorem L5_at : L5.getD 5 0 = 77 := by decide +kernel
theorem L5_nodes : nodesTo L5 256 = [5] := by decide +kernel

set_option maxHeartbeats 8000000 in
set_option maxRecDepth 100000 in
theorem ImapWrong_walk (a0 a1 a2 : Int) (w : World) (w0 : (Lit.int .i64 a0).wf = true) (w1 : (Lit.int .i64 a1).wf = true) (w2 : (Lit.int .i64 a2).wf = true) :
    Calls Try.prog 10 #[.int .i64 a0, .int .i64 a1, .int .i64 a2] w fun e w' => e = .returned (.bool true) ∧ Below w.heap.size w w' := by
  clear w0 w1 w2
  have A5 := Aside0.mk L5_at
  have N5 := Aside0.mk L5_nodes
  go_enter Try.func10, Try.ntmps10
  go_wp2_with fail
  refine (new_calls _).mono ?_
  rintro e w1 ⟨rfl, hM, hb, hz⟩
  have HM := Aside0.mk hM
  clear hM hz
  go_wp2_with fail
  refine (set_in _ _ 5 77 _ HM.out (by decide) (by decide) (by decide) (by decide)).mono ?_
  rintro e w2 ⟨rfl, hM, hg⟩
  have hb2 := below_grown hb hg (Nat.le_refl _) hb.size
  replace HM : Aside0 (Mp w2 w.heap.size L5) := Aside0.mk hM
  clear hM hg hb
  go_wp2_with fail
  refine (place_calls _ _ _ (by omega) (by omega)).mono ?_
  rintro e w3 ⟨rfl, hg⟩
  have HM3 := Aside0.mk (HM.out.grown hg (by simp))
  have hb3 := hb2.grown hg hb2.size (fun j hj => by cases hj)
  clear hg hb2 HM
  have p0 := Int.emod_nonneg a0 (show (4 : Int) ≠ 0 by omega)
  have p1 := Int.emod_lt_of_pos a0 (show (0 : Int) < 4 by omega)
  generalize a0 % 4 = pp at *
  obtain ⟨p, rfl⟩ := Int.eq_ofNat_of_zero_le p0
  have hp : p < 4 := by omega
  clear p0 p1
  go_wp2_with fail
  refine (zero_calls _).mono ?_
  rintro e w4 ⟨rfl, hb4⟩
  have HM4 := Aside0.mk (HM3.out.below hb4 HM3.out.lt)
  have HB4 := below_step hb3 hb4
  clear hb3 hb4 HM3
  have hcv : ∀ W : World, (convert 9 48 (.string zeroS)).run Try.prog W = .ok (.slice (some ⟨W.heap.size, 0, none⟩) 256 (grownCap W 256 0 5)) (Lib.bytesWorld W 5 zeroS) := fun W => by
    rw [Lib.run_convert_string_bytes (P := Try.prog) W 9 48 5 zeroS Try.underlying9 Try.underlying48 Try.underlying5, zero_size]
  have hBt := Aside0.mk (bt_new w4)
  have hcap := grownCap_ge w4 256 0 5
  have hgr := Aside0.mk (below_bytesWorld w4 5 zeroS)
  have hsz5 := Lib.bytesWorld_size w4 5 zeroS
  have HSZ5 := Aside0.mk hsz5
  clear hsz5
  generalize zeroS = Z at *
  go_wp2_with fail
  refine (place_calls _ _ _ (by omega) (by omega)).mono ?_
  rintro e w5 ⟨rfl, hg⟩
  have hBt5 := Aside0.mk (bt_grown hBt.out hg (by rw [HSZ5.out]; omega) (by simp))
  have hg2 := hgr.out
  have HM5 := Aside0.mk ((HM4.out.below hg2 HM4.out.lt).grown hg (by simp))
  have hB5 : Below w.heap.size w (Lib.bytesWorld w4 5 Z) := below_step HB4 hg2
  have HB5 := hB5.grown hg hB5.size (fun j hj => by cases hj)
  have hgB : w.heap.size ≤ w4.heap.size := HB4.size
  have hgB2 : w.heap.size < w4.heap.size := HM4.out.lt
  have hB5s : w4.heap.size < w5.heap.size := by have h1 := hg.size; rw [HSZ5.out] at h1; omega
  clear hBt hgr hg2 hg hB5 hcv HM4 HB4 HSZ5
  have m0 := Int.emod_nonneg a2 (show (4 : Int) ≠ 0 by omega)
  have m1 := Int.emod_lt_of_pos a2 (show (0 : Int) < 4 by omega)
  generalize a2 % 4 = mm at *
  have hm : mm = 0 ∨ mm = 1 ∨ mm = 2 ∨ mm = 3 := by omega
  clear m0 m1
  obtain ⟨B, hBe⟩ : ∃ B, w4.heap.size = B := ⟨_, rfl⟩
  rw [hBe] at hBt5 hgB hgB2 hB5s ⊢
  clear hBe
  generalize grownCap w4 256 0 5 = c at *
  rcases hm with rfl | rfl | rfl | rfl
  · go_wp2_with fail
    refine (place_calls _ _ _ (by omega) (by omega)).mono ?_
    rintro e WW ⟨rfl, hg⟩
    replace hBt5 := Aside0.mk (bt_grown hBt5.out hg (by omega) (by simp))
    replace HM5 := Aside0.mk (HM5.out.grown hg (by simp))
    replace HB5 := HB5.grown hg HB5.size (fun j hj => by cases hj)
    clear hg
    have m0 := Int.emod_nonneg a1 (show (128 : Int) ≠ 0 by omega)
    have m1 := Int.emod_lt_of_pos a1 (show (0 : Int) < 128 by omega)
    generalize a1 % 128 = aa at *
    obtain ⟨a, rfl⟩ := Int.eq_ofNat_of_zero_le m0
    have hset := bt_set hBt5.out (128 + a) 1 (by rw [zs_len]; omega)
    have hx0 := hBt5.out.1 (128 + a) (by rw [zs_len]; omega)
    have hf0 := hBt5.out.2 (128 + a) (by rw [zs_len]; omega)
    have hcv2 := bt_string hset c
    rw [List.length_set, zs_len] at hcv2
    have hM6 := Aside0.mk (HM5.out.grown (grown_set WW ⟨B, 128 + a, none⟩ (.int .u8 1)) (by simp; omega))
    have hB6 := below_grown HB5 (grown_set WW ⟨B, 128 + a, none⟩ (.int .u8 1)) hgB HB5.size
    have hSz : ((strOfNums ((zs 256).set (128 + a) 1)).size : Int) ≤ 4611686018427387904 := by rw [strOfNums_size, List.length_set, zs_len]; omega
    obtain ⟨S, hS⟩ : ∃ S, strOfNums ((zs 256).set (128 + a) 1) = S := ⟨_, rfl⟩
    rw [hS] at hcv2 hSz
    have HS := Aside0.mk hS
    have HSZ := Aside0.mk hSz
    clear hset hS hSz
    go_wp2_with fail
    refine (take_no _ _ p _ _ hM6.out hp HSZ.out (by rw [← HS.out]; exact no0 _ L5_len p a hp (by omega))).mono ?_
    rintro e w7 ⟨rfl, hb7⟩
    have HM7 := Aside0.mk (hM6.out.below hb7 hM6.out.lt)
    have HB7 := below_step hB6 hb7
    clear hb7
    go_wp2_with fail
    refine (get_in _ _ 5 _ HM7.out (by decide) (by decide)).mono ?_
    rintro e w8 ⟨rfl, rfl⟩
    rw [A5.out]
    go_wp2_with fail
    refine (nodes_calls _ _ _ HM7.out).mono ?_
    rintro e w8 ⟨v, rfl, HO, hb8⟩
    rw [N5.out] at HO
    obtain ⟨Ao, co, rfl⟩ := Kd.R_slice HO
    have HB8 := below_step HB7 hb8
    clear HO hb8 HB7
    simp only [List.length_cons, List.length_nil]
    go_wp2_with fail
    refine (awake_calls _).mono ?_
    rintro e w9 ⟨rfl, hb9⟩
    have HB9 := below_step HB8 hb9
    go_wp2_with fail
    go_ret
    exact ⟨rfl, HB9⟩
  · go_wp2_with fail
    refine (place_calls _ _ _ (by omega) (by omega)).mono ?_
    rintro e WW ⟨rfl, hg⟩
    replace hBt5 := Aside0.mk (bt_grown hBt5.out hg (by omega) (by simp))
    replace HM5 := Aside0.mk (HM5.out.grown hg (by simp))
    replace HB5 := HB5.grown hg HB5.size (fun j hj => by cases hj)
    clear hg
    have m0 := Int.emod_nonneg a1 (show (64 : Int) ≠ 0 by omega)
    have m1 := Int.emod_lt_of_pos a1 (show (0 : Int) < 64 by omega)
    generalize a1 % 64 = aa at *
    obtain ⟨a, rfl⟩ := Int.eq_ofNat_of_zero_le m0
    have hset := bt_set hBt5.out (2 * a + 1) 64 (by rw [zs_len]; omega)
    have hx0 := hBt5.out.1 (2 * a + 1) (by rw [zs_len]; omega)
    have hf0 := hBt5.out.2 (2 * a + 1) (by rw [zs_len]; omega)
    have hcv2 := bt_string hset c
    rw [List.length_set, zs_len] at hcv2
    have hM6 := Aside0.mk (HM5.out.grown (grown_set WW ⟨B, 2 * a + 1, none⟩ (.int .u8 64)) (by simp; omega))
    have hB6 := below_grown HB5 (grown_set WW ⟨B, 2 * a + 1, none⟩ (.int .u8 64)) hgB HB5.size
    have hSz : ((strOfNums ((zs 256).set (2 * a + 1) 64)).size : Int) ≤ 4611686018427387904 := by rw [strOfNums_size, List.length_set, zs_len]; omega
    obtain ⟨S, hS⟩ : ∃ S, strOfNums ((zs 256).set (2 * a + 1) 64) = S := ⟨_, rfl⟩
    rw [hS] at hcv2 hSz
    have HS := Aside0.mk hS
    have HSZ := Aside0.mk hSz
    clear hset hS hSz
    go_wp2_with fail
    refine (take_no _ _ p _ _ hM6.out hp HSZ.out (by rw [← HS.out]; exact no1 _ p a (by omega))).mono ?_
    rintro e w7 ⟨rfl, hb7⟩
    have HM7 := Aside0.mk (hM6.out.below hb7 hM6.out.lt)
    have HB7 := below_step hB6 hb7
    clear hb7
    go_wp2_with fail
    refine (get_in _ _ 5 _ HM7.out (by decide) (by decide)).mono ?_
    rintro e w8 ⟨rfl, rfl⟩
    rw [A5.out]
    go_wp2_with fail
    refine (nodes_calls _ _ _ HM7.out).mono ?_
    rintro e w8 ⟨v, rfl, HO, hb8⟩
    rw [N5.out] at HO
    obtain ⟨Ao, co, rfl⟩ := Kd.R_slice HO
    have HB8 := below_step HB7 hb8
    clear HO hb8 HB7
    simp only [List.length_cons, List.length_nil]
    go_wp2_with fail
    refine (awake_calls _).mono ?_
    rintro e w9 ⟨rfl, hb9⟩
    have HB9 := below_step HB8 hb9
    go_wp2_with fail
    go_ret
    exact ⟨rfl, HB9⟩
  · obtain ⟨WW, hWW⟩ : ∃ WW, WW = w5 := ⟨_, rfl⟩
    subst hWW
    have hset := bt_set hBt5.out (0) 9 (by rw [zs_len]; omega)
    have hx0 := hBt5.out.1 (0) (by rw [zs_len]; omega)
    have hf0 := hBt5.out.2 (0) (by rw [zs_len]; omega)
    have hcv2 := bt_string hset c
    rw [List.length_set, zs_len] at hcv2
    have hM6 := Aside0.mk (HM5.out.grown (grown_set WW ⟨B, 0, none⟩ (.int .u8 9)) (by simp; omega))
    have hB6 := below_grown HB5 (grown_set WW ⟨B, 0, none⟩ (.int .u8 9)) hgB HB5.size
    have hSz : ((strOfNums ((zs 256).set (0) 9)).size : Int) ≤ 4611686018427387904 := by rw [strOfNums_size, List.length_set, zs_len]; omega
    obtain ⟨S, hS⟩ : ∃ S, strOfNums ((zs 256).set (0) 9) = S := ⟨_, rfl⟩
    rw [hS] at hcv2 hSz
    have HS := Aside0.mk hS
    have HSZ := Aside0.mk hSz
    clear hset hS hSz
    go_wp2_with fail
    refine (take_no _ _ 0 _ _ hM6.out (by omega) HSZ.out (by rw [← HS.out]; exact no2 _)).mono ?_
    rintro e w7 ⟨rfl, hb7⟩
    have HM7 := Aside0.mk (hM6.out.below hb7 hM6.out.lt)
    have HB7 := below_step hB6 hb7
    clear hb7
    go_wp2_with fail
    refine (get_in _ _ 5 _ HM7.out (by decide) (by decide)).mono ?_
    rintro e w8 ⟨rfl, rfl⟩
    rw [A5.out]
    go_wp2_with fail
    refine (nodes_calls _ _ _ HM7.out).mono ?_
    rintro e w8 ⟨v, rfl, HO, hb8⟩
    rw [N5.out] at HO
    obtain ⟨Ao, co, rfl⟩ := Kd.R_slice HO
    have HB8 := below_step HB7 hb8
    clear HO hb8 HB7
    simp only [List.length_cons, List.length_nil]
    go_wp2_with fail
    refine (awake_calls _).mono ?_
    rintro e w9 ⟨rfl, hb9⟩
    have HB9 := below_step HB8 hb9
    go_wp2_with fail
    go_ret
    exact ⟨rfl, HB9⟩
  · have hb3 : Bt w5 B (zs 255) := ⟨fun j hj => by
      have h := hBt5.out.1 j (by rw [zs_len] at hj ⊢; omega)
      rw [h]
      rw [zs_len] at hj
      unfold zs
      rw [List.getD_eq_getElem?_getD, List.getD_eq_getElem?_getD, List.getElem?_replicate, List.getElem?_replicate, if_pos (by omega), if_pos hj], fun j hj => hBt5.out.2 j (by rw [zs_len] at hj ⊢; omega)⟩
    have hcv2 := bt_string hb3 c
    rw [zs_len] at hcv2
    have hSz : ((strOfNums (zs 255)).size : Int) ≤ 4611686018427387904 := by rw [strOfNums_size, zs_len]; omega
    obtain ⟨S, hS⟩ : ∃ S, strOfNums (zs 255) = S := ⟨_, rfl⟩
    rw [hS] at hcv2 hSz
    have HS := Aside0.mk hS
    have HSZ := Aside0.mk hSz
    clear hS hSz hb3
    go_wp2_with fail
    refine (take_no _ _ p _ _ HM5.out hp HSZ.out (by rw [← HS.out]; exact no3 _ p hp)).mono ?_
    rintro e w7 ⟨rfl, hb7⟩
    have HM7 := Aside0.mk (HM5.out.below hb7 HM5.out.lt)
    have HB7 := below_step HB5 hb7
    clear hb7
    go_wp2_with fail
    refine (get_in _ _ 5 _ HM7.out (by decide) (by decide)).mono ?_
    rintro e w8 ⟨rfl, rfl⟩
    rw [A5.out]
    go_wp2_with fail
    refine (nodes_calls _ _ _ HM7.out).mono ?_
    rintro e w8 ⟨v, rfl, HO, hb8⟩
    rw [N5.out] at HO
    obtain ⟨Ao, co, rfl⟩ := Kd.R_slice HO
    have HB8 := below_step HB7 hb8
    clear HO hb8 HB7
    simp only [List.length_cons, List.length_nil]
    go_wp2_with fail
    refine (awake_calls _).mono ?_
    rintro e w9 ⟨rfl, hb9⟩
    have HB9 := below_step HB8 hb9
    go_wp2_with fail
    go_ret
    exact ⟨rfl, HB9⟩
end Go.Proofs.Ytbdghlneiblkcaa.Pure
