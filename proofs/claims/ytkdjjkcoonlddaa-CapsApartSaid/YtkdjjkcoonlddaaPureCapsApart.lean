/- CapsApart answers true for all numbers: handles of unlike houses, gens, lives are unlike; each tells its house. Conditions: none. -/
import Derived.Test.YtkdjjkcoonlddaaCapsW
namespace Go.Proofs.Ytkdjjkcoonlddaa.Pure
open Go.RowKit Go.Maps Go.Proofs.YtkdjjkcoonlddaaW.PrintWords Go.Proofs.YtkdjjkcoonlddaaW.PrintLast Go.Proofs.YtkdjjkcoonlddaaW.PrintMore
open Go.Proofs.Ytkdjjkcoonlddaa.Aid Go.Proofs.Ytkdjjkcoonlddaa.Caps
set_option linter.unusedVariables false
set_option linter.unusedSimpArgs false

/-- The handles behind i calls of Open(1, 1). -/
def opL (F : Int) (i : Nat) : List H3 := (List.range i).map fun j : Nat => (F + ((j : Int) + 1), (1 : Int), (1 : Int))
theorem opL_len (F : Int) (i : Nat) : (opL F i).length = i := by unfold opL; rw [List.length_map, List.length_range]
theorem opL_succ (F : Int) (i : Nat) : opL F (i + 1) = opL F i ++ [(F + ((i : Int) + 1), 1, 1)] := by unfold opL; rw [List.range_succ, List.map_append]; rfl
theorem opL_mem {F : Int} {i : Nat} {p : H3} (h : p ∈ opL F i) : ∃ j, j < i ∧ p = (F + ((j : Int) + 1), 1, 1) := by
  unfold opL at h
  obtain ⟨j, hj, rfl⟩ := List.mem_map.1 h
  exact ⟨j, List.mem_range.1 hj, rfl⟩
theorem opL_fresh (F : Int) (i : Nat) : lookH (opL F i) (F + ((i : Int) + 1)) = none := look_none fun p hp => by
  obtain ⟨j, hj, rfl⟩ := opL_mem hp
  show F + ((j : Int) + 1) ≠ F + ((i : Int) + 1)
  omega
theorem opL_opens (F : Int) (i : Nat) : opensF (opL F i) 1 = i := by
  unfold opensF
  rw [List.filter_eq_self.2 (fun p hp => by obtain ⟨j, _, rfl⟩ := opL_mem hp; rfl), opL_len]
theorem opL_has (F : Int) (i : Nat) (h : 1 ≤ i) : lookH (opL F i) (F + (i : Int)) = some (F + (i : Int), 1, 1) := by
  obtain ⟨k, rfl⟩ : ∃ k, i = k + 1 := ⟨i - 1, by omega⟩
  have h1 := opL_fresh F k
  rw [opL_succ, look_append _ _ _ h1]
  rw [if_pos (by show F + ((k : Int) + 1) = F + ((k + 1 : Nat) : Int); omega)]
  congr 2
theorem opL_other (F G : Int) (i : Nat) (k : Int) (hk : 1 ≤ k) (hk2 : k ≤ 20) (hi : i ≤ 20) (h : F + 65536 ≤ G ∨ G + 65536 ≤ F) : lookH (opL G i) (F + k) = none := look_none fun p hp => by
  obtain ⟨j, hj, rfl⟩ := opL_mem hp
  show G + ((j : Int) + 1) ≠ F + k
  omega
theorem front_bd {a b c : Int} (a0 : 1 ≤ a) (a1 : a ≤ 16) (b0 : 1 ≤ b) (b1 : b ≤ 65535) (c0 : 1 ≤ c) (c1 : c ≤ 1000) : 0 ≤ frontF a b c ∧ frontF a b c ≤ 1000000000000000000 := by
  unfold frontF; omega
theorem front_house {a b c k : Int} (a0 : 1 ≤ a) (a1 : a ≤ 16) (b0 : 1 ≤ b) (b1 : b ≤ 65535) (c0 : 1 ≤ c) (c1 : c ≤ 1000) (k0 : 1 ≤ k) (k1 : k ≤ 20) : houseF (frontF a b c + k) = a := by
  have e : (frontF a b c + k) / 4503599627370496 = a := by unfold frontF; omega
  unfold houseF
  rw [e, if_pos ⟨a0, a1⟩]
theorem house_neg {x : Int} (h : 1 ≤ x) : houseF (-x) = 0 := by
  unfold houseF
  rw [if_neg (by omega)]
theorem fronts (p q r u v w : Int) (p0 : 1 ≤ p) (p1 : p ≤ 16) (q0 : 1 ≤ q) (q1 : q ≤ 65535) (r0 : 1 ≤ r) (r1 : r ≤ 1000) (u0 : 1 ≤ u) (u1 : u ≤ 16) (v0 : 1 ≤ v) (v1 : v ≤ 65535) (w0 : 1 ≤ w) (w1 : w ≤ 1000) :
    (p = u ∧ q = v ∧ r = w) ∨ (((p == u) = false ∨ ((p == u) = true ∧ (q == v) = false) ∨ ((p == u) = true ∧ (q == v) = true ∧ (r == w) = false)) ∧ (frontF p q r + 65536 ≤ frontF u v w ∨ frontF u v w + 65536 ≤ frontF p q r)) := by
  unfold frontF
  by_cases h1 : p = u
  · by_cases h2 : q = v
    · by_cases h3 : r = w
      · exact Or.inl ⟨h1, h2, h3⟩
      · exact Or.inr ⟨Or.inr (Or.inr ⟨beq_iff_eq.2 h1, beq_iff_eq.2 h2, beq_eq_false_iff_ne.2 h3⟩), by omega⟩
    · exact Or.inr ⟨Or.inr (Or.inl ⟨beq_iff_eq.2 h1, beq_eq_false_iff_ne.2 h2⟩), by omega⟩
  · exact Or.inr ⟨Or.inl (beq_eq_false_iff_ne.2 h1), by omega⟩
theorem len20 (F : Int) (i : Nat) (h : i ≤ 20) : (opL F i).length ≤ 100 := by rw [opL_len]; omega

set_option maxHeartbeats 16000000 in
set_option maxRecDepth 100000 in
theorem CapsApart_walk (a0 a1 a2 : Int) (w : World) (w0 : (Lit.int .i64 a0).wf = true) (w1 : (Lit.int .i64 a1).wf = true) (w2 : (Lit.int .i64 a2).wf = true) :
    Calls Try.prog 8 #[.int .i64 a0, .int .i64 a1, .int .i64 a2] w fun e w' => e = .returned (.bool true) ∧ Below w.heap.size w w' := by
  clear w0 w1 w2
  go_enter Try.func8, Try.ntmps8
  go_wp2_with fail
  refine (place_calls _ _ _ (by omega) (by omega)).mono ?_
  rintro e w1 ⟨rfl, hb1⟩
  go_wp2_with fail
  refine (place_calls _ _ _ (by omega) (by omega)).mono ?_
  rintro e w2 ⟨rfl, hb⟩
  have hb2 := below_step hb1 hb
  clear hb hb1
  have x0 := Int.emod_nonneg a0 (show (1073741824 : Int) ≠ 0 by omega)
  have x1 := Int.emod_lt_of_pos a0 (show (0 : Int) < 1073741824 by omega)
  have y0 := Int.emod_nonneg a1 (show (1073741824 : Int) ≠ 0 by omega)
  have y1 := Int.emod_lt_of_pos a1 (show (0 : Int) < 1073741824 by omega)
  generalize a0 % 1073741824 = x at *
  generalize a1 % 1073741824 = y at *
  obtain ⟨p, hp⟩ : ∃ p, 1 + x % 16 = p := ⟨_, rfl⟩
  obtain ⟨q, hq⟩ : ∃ q, 1 + x / 16 % 65535 = q := ⟨_, rfl⟩
  obtain ⟨r, hr⟩ : ∃ r, 1 + x / 1048560 % 1000 = r := ⟨_, rfl⟩
  obtain ⟨u, hu⟩ : ∃ u, 1 + y % 16 = u := ⟨_, rfl⟩
  obtain ⟨v, hv⟩ : ∃ v, 1 + y / 16 % 65535 = v := ⟨_, rfl⟩
  obtain ⟨z, hz⟩ : ∃ z, 1 + y / 1048560 % 1000 = z := ⟨_, rfl⟩
  have p0 : 1 ≤ p := by omega
  have p1 : p ≤ 16 := by omega
  have q0 : 1 ≤ q := by omega
  have q1 : q ≤ 65535 := by omega
  have r0 : 1 ≤ r := by omega
  have r1 : r ≤ 1000 := by omega
  have u0 : 1 ≤ u := by omega
  have u1 : u ≤ 16 := by omega
  have v0 : 1 ≤ v := by omega
  have v1 : v ≤ 65535 := by omega
  have z0 : 1 ≤ z := by omega
  have z1 : z ≤ 1000 := by omega
  have Hp := Aside0.mk hp
  have Hq := Aside0.mk hq
  have Hr := Aside0.mk hr
  have Hu := Aside0.mk hu
  have Hv := Aside0.mk hv
  have Hz := Aside0.mk hz
  have HFR := Aside0.mk (fronts p q r u v z p0 p1 q0 q1 r0 r1 u0 u1 v0 v1 z0 z1)
  clear hp hq hr hu hv hz
  go_wp2_with fail
  rw [Hp.out, Hq.out, Hr.out, Hu.out, Hv.out, Hz.out]
  refine (new_calls p q r _ (by omega) p1 (by omega) q1 (by omega) (by omega)).mono ?_
  rintro e w3 ⟨rfl, hT, hb⟩
  have HT := Aside0.mk hT
  have hb3 := below_step hb2 hb
  have hz3 := hb2.size
  have hz4 := hT.glt
  clear hT hb
  obtain ⟨g, hg⟩ : ∃ g, w2.heap.size + 1 = g := ⟨_, rfl⟩
  obtain ⟨b, hbb⟩ : ∃ b, w2.heap.size = b := ⟨_, rfl⟩
  have hgl : w.heap.size ≤ g := by omega
  have hbl : w.heap.size ≤ b := by omega
  have hg3 : g < w3.heap.size := by omega
  have hb3' : b < w3.heap.size := by omega
  rw [hg, hbb] at HT
  rw [hg]
  clear hg hbb hz3 hz4 hb2
  have hz5 := hb3.size
  go_wp2_with fail
  refine (new_calls u v z _ (by omega) u1 (by omega) v1 (by omega) (by omega)).mono ?_
  rintro e w4 ⟨rfl, hT, hb⟩
  have HT4 := Aside0.mk (HT.out.below hb)
  have HU4 := Aside0.mk hT
  have hb4 := below_step hb3 hb
  clear hT hb HT
  obtain ⟨g2, hg⟩ : ∃ g2, w3.heap.size + 1 = g2 := ⟨_, rfl⟩
  obtain ⟨b2, hbb⟩ : ∃ b2, w3.heap.size = b2 := ⟨_, rfl⟩
  have hgl2 : w.heap.size ≤ g2 := by omega
  have hbl2 : w.heap.size ≤ b2 := by omega
  have n1 : g < g2 := by omega
  have n2 : g < b2 := by omega
  have n3 : b < g2 := by omega
  have n4 : b < b2 := by omega
  rw [hg, hbb] at HU4
  rw [hg]
  clear hg hbb hg3 hb3' hz5 hb3
  obtain ⟨fp0, fp1⟩ := front_bd p0 p1 q0 q1 r0 r1
  obtain ⟨fu0, fu1⟩ := front_bd u0 u1 v0 v1 z0 z1
  have HOUS := fun (k : Int) (k0 : 1 ≤ k) (k1 : k ≤ 20) => front_house p0 p1 q0 q1 r0 r1 k0 k1
  have HOUT := fun (k : Int) (k0 : 1 ≤ k) (k1 : k ≤ 20) => front_house u0 u1 v0 v1 z0 z1 k0 k1
  have HOUS := Aside0.mk HOUS
  have HOUT := Aside0.mk HOUT
  generalize hFe : frontF p q r = F at *
  generalize hGe : frontF u v z = G at *
  have HFe := Aside0.mk hFe
  have HGe := Aside0.mk hGe
  clear hFe hGe
  go_wp2_with fail
  refine (place_calls _ _ _ (by omega) (by omega)).mono ?_
  rintro e w5 ⟨rfl, hb⟩
  have HT5 := Aside0.mk (HT4.out.below hb)
  have HU5 := Aside0.mk (HU4.out.below hb)
  have hb5 := below_step hb4 hb
  clear hb hb4 HT4 HU4
  have k0 := Int.emod_nonneg a2 (show (20 : Int) ≠ 0 by omega)
  have k1 := Int.emod_lt_of_pos a2 (show (0 : Int) < 20 by omega)
  generalize a2 % 20 = kk at *
  obtain ⟨k, hk⟩ := Int.eq_ofNat_of_zero_le (show 0 ≤ 1 + kk by omega)
  have hk1 : 1 ≤ k := by omega
  have hk2 : k ≤ 20 := by omega
  have HK := Aside0.mk hk
  clear hk
  go_wp2_with fail
  rw [HK.out]
  clear k0 k1
  go_loopw [18, 19, 20] (fun vh vg i wr => ∃ j : Nat, i = .int .i64 j ∧ j ≤ k ∧ (∃ h1 h2 : Int, vh = .int .i64 h1 ∧ vg = .int .i64 h2 ∧ (1 ≤ j → h1 = F + (j : Int) ∧ h2 = G + (j : Int))) ∧ Aside0 (Tab wr g b F j (opL F j)) ∧ Aside0 (Tab wr g2 b2 G j (opL G j)) ∧ Below w.heap.size w wr)
    (fun _ _ i _ => k - (intOf i).toNat)
  case atStart => exact ⟨0, rfl, by omega, ⟨0, 0, rfl, rfl, fun h => by omega⟩, HT5, HU5, hb5⟩
  case round =>
    clear HT5 HU5 hb5
    obtain ⟨j, rfl, hj, ⟨h1, h2, rfl, rfl, hj2⟩, HT, HU, HB⟩ := hrel
    have HJ := Aside0.mk hj2
    clear hj2
    by_cases hlt : j < k
    · have hl1 : (opL F j).length < 64 := by rw [opL_len]; omega
      have hl2 : (opL G j).length < 64 := by rw [opL_len]; omega
      have HFr1 := Aside0.mk (opL_fresh F j)
      have HFr2 := Aside0.mk (opL_fresh G j)
      have HS1 := Aside0.mk (opL_succ F j)
      have HS2 := Aside0.mk (opL_succ G j)
      go_wp2_with fail
      refine (open_yes g b F (j : Int) (opL F j) 1 1 _ HT.out (by decide) (by decide) (by decide) (by decide) hl1 (by omega) (by omega) fp0 (by omega) HFr1.out).mono ?_
      rintro e w6 ⟨rfl, hT, hf⟩
      rw [← HS1.out] at hT
      have HB6 := hf.below HB hgl hbl HB.size
      have HU6 := Aside0.mk (HU.out.fr hf (by omega) (by omega) (by omega) (by omega))
      have HT6 := Aside0.mk hT
      clear hT hf HB HU HT
      go_wp2_with fail
      refine (open_yes g2 b2 G (j : Int) (opL G j) 1 1 _ HU6.out (by decide) (by decide) (by decide) (by decide) hl2 (by omega) (by omega) fu0 (by omega) HFr2.out).mono ?_
      rintro e w7 ⟨rfl, hT, hf⟩
      rw [← HS2.out] at hT
      have HB7 := hf.below HB6 hgl2 hbl2 HB6.size
      have HT7 := Aside0.mk (HT6.out.fr hf (by omega) (by omega) (by omega) (by omega))
      have HU7 := Aside0.mk hT
      clear hT hf HB6 HU6 HT6
      go_wp2_with fail
      go_roundw
      case rel => exact ⟨j + 1, by go_num, by omega, ⟨_, _, rfl, rfl, fun _ => ⟨by omega, by omega⟩⟩, by
        have h := HT7.out
        rwa [show (j : Int) + 1 = ((j + 1 : Nat) : Int) by omega] at h
        , by
        have h := HU7.out
        rwa [show (j : Int) + 1 = ((j + 1 : Nat) : Int) by omega] at h, HB7⟩
      case measure => simp only [intOf]; (try rw [w64 (by omega) (by omega)]); omega
    · obtain rfl : j = k := by omega
      obtain ⟨e1, e2⟩ := HJ.out hk1
      subst e1
      subst e2
      have hwf : (Lit.int .i64 (F + (j : Int))).wf = true := bd_wf (by omega) (by omega)
      have hwf2 : (Lit.int .i64 (G + (j : Int))).wf = true := bd_wf (by omega) (by omega)
      have hwf3 : (Lit.int .i64 (-(F + (j : Int)))).wf = true := bd_wf (by omega) (by omega)
      have H1 := Aside0.mk (HOUS.out (j : Int) (by omega) (by omega))
      have H2 := Aside0.mk (HOUT.out (j : Int) (by omega) (by omega))
      have H3 := Aside0.mk (house_neg (x := F + (j : Int)) (by omega))
      have H4 : Aside0 (houseF 76561193665298432 = 0) := ⟨by decide⟩
      have HOP := Aside0.mk (opL_opens F j)
      have HLen := len20 F j hk2
      have g1 : decide ((0 : Int) < F + (j : Int)) = true := decide_eq_true (by omega)
      have g2' : decide ((0 : Int) < G + (j : Int)) = true := decide_eq_true (by omega)
      have hjj : ((j : Int) == (j : Int)) = true := by simp
      go_wp2_with fail
      refine (get_calls g2 b2 G _ (opL G j) (F + (j : Int)) _ HU.out hwf).mono ?_
      rintro e w6 ⟨rfl, hb6⟩
      have HT6 := Aside0.mk (HT.out.below (Below.mono hb6 (Nat.le_refl _)))
      have HB6 := below_step HB hb6
      clear hb6 HB HT HU
      rcases HFR.out with ⟨rfl, rfl, rfl⟩ | ⟨hd3, hne⟩
      · have hGF : G = F := HGe.out.symm.trans HFe.out
        subst hGF
        have HL := Aside0.mk (opL_has G j hk1)
        have hpp : (p == p) = true := by simp
        have hqq : (q == q) = true := by simp
        have hrr : (r == r) = true := by simp
        have hff : ((G + (j : Int)) == (G + (j : Int))) = true := by simp
        rw [HL.out]
        dsimp only
        go_wp2_with fail
        refine (house_calls (G + (j : Int)) _ hwf).mono ?_
        rintro e w7 ⟨rfl, rfl⟩
        rw [H1.out]
        go_wp2_with fail
        refine (house_calls (G + (j : Int)) _ hwf).mono ?_
        rintro e w7 ⟨rfl, rfl⟩
        rw [H1.out]
        go_wp2_with fail
        refine (house_calls (-(G + (j : Int))) _ hwf3).mono ?_
        rintro e w7 ⟨rfl, rfl⟩
        rw [H3.out]
        go_wp2_with fail
        refine (house_calls 76561193665298432 _ (by decide)).mono ?_
        rintro e w7 ⟨rfl, rfl⟩
        rw [H4.out]
        go_wp2_with fail
        refine (opens_calls g b G _ (opL G j) 1 _ HT6.out HLen).mono ?_
        rintro e w7 ⟨rfl, hb7⟩
        have HB7 := below_step HB6 hb7
        rw [HOP.out]
        go_wp2_with fail
        refine (awake_calls _).mono ?_
        rintro e w8 ⟨rfl, hb8⟩
        have HB8 := below_step HB7 hb8
        go_wp2_with fail
        go_ret
        exact ⟨rfl, HB8⟩
      · have HL := Aside0.mk (opL_other F G j (j : Int) (by omega) (by omega) hk2 hne)
        have hff : ((F + (j : Int)) == (G + (j : Int))) = false := beq_eq_false_iff_ne.2 (by omega)
        rw [HL.out]
        dsimp only
        clear hne
        rcases hd3 with q1' | ⟨q1', q2'⟩ | ⟨q1', q2', q3'⟩ <;> (
          go_wp2_with fail
          refine (house_calls (F + (j : Int)) _ hwf).mono ?_
          rintro e w7 ⟨rfl, rfl⟩
          rw [H1.out]
          go_wp2_with fail
          refine (house_calls (G + (j : Int)) _ hwf2).mono ?_
          rintro e w7 ⟨rfl, rfl⟩
          rw [H2.out]
          go_wp2_with fail
          refine (house_calls (-(F + (j : Int))) _ hwf3).mono ?_
          rintro e w7 ⟨rfl, rfl⟩
          rw [H3.out]
          go_wp2_with fail
          refine (house_calls 76561193665298432 _ (by decide)).mono ?_
          rintro e w7 ⟨rfl, rfl⟩
          rw [H4.out]
          go_wp2_with fail
          refine (opens_calls g b F _ (opL F j) 1 _ HT6.out HLen).mono ?_
          rintro e w7 ⟨rfl, hb7⟩
          have HB7 := below_step HB6 hb7
          rw [HOP.out]
          go_wp2_with fail
          refine (awake_calls _).mono ?_
          rintro e w8 ⟨rfl, hb8⟩
          have HB8 := below_step HB7 hb8
          go_wp2_with fail
          go_ret
          exact ⟨rfl, HB8⟩)
end Go.Proofs.Ytkdjjkcoonlddaa.Pure
