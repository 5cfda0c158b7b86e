/- ImapFirsts answers true for every number and every list: nodes come at the first free number, go, and come again there; their list rises. Conditions: none. -/
import Derived.Test.YtbdghlneiblkcaaImapF
namespace Go.Proofs.Ytbdghlneiblkcaa.Pure
open Go.RowKit Go.Proofs.YtbdghlneiblkcaaW.PrintWords Go.Proofs.YtbdghlneiblkcaaW.PrintLast Go.Proofs.YtbdghlneiblkcaaW.PrintMore
open Go.Proofs.Ytbdghlneiblkcaa.Aid Go.Proofs.Ytbdghlneiblkcaa.Imap
set_option linter.unusedVariables false
set_option linter.unusedSimpArgs false

set_option maxHeartbeats 8000000 in
set_option maxRecDepth 100000 in
theorem ImapFirsts_walk (a0 : Int) (A1 : Option Addr) (c1 : Nat) (l1 : List Int) (w : World) (hr1 : Kd.C (Kd.int .i64) w A1 l1.length l1) (hc1 : l1.length ≤ c1) (w0 : (Lit.int .i64 a0).wf = true) (w1 : l1.length ≤ maxLen ∧ ∀ x_ ∈ l1, (Lit.int .i64 x_).wf = true) :
    Calls Try.prog 3 #[.int .i64 a0, .slice A1 l1.length c1] w fun e w' => e = .returned (.bool true) ∧ Below w.heap.size w w' := by
  have hmax : l1.length ≤ 9223372036854775807 := Kd.C_max hr1
  have HR1 := Aside0.mk hr1
  clear hr1 w1 w0
  by_cases hlen : 100 < l1.length
  · have d1 : decide ((100 : Int) < (l1.length : Int)) = true := decide_eq_true (by omega)
    go_enter Try.func3, Try.ntmps3
    go_wp2_with fail
    refine (new_calls _).mono ?_
    rintro e w1 ⟨rfl, hM, hb, hz⟩
    clear hM hz
    go_wp2_with fail
    refine (awake_calls _).mono ?_
    rintro e w2 ⟨rfl, hb2⟩
    have hb3 := below_step hb hb2
    go_wp2_with fail
    go_ret
    exact ⟨rfl, hb3⟩
  · have d1 : decide ((100 : Int) < (l1.length : Int)) = false := decide_eq_false (by omega)
    go_enter Try.func3, Try.ntmps3
    go_wp2_with fail
    refine (new_calls _).mono ?_
    rintro e w1 ⟨rfl, hM, hb, hz⟩
    rw [← Fj_one] at hM
    have HM := Aside0.mk hM
    clear hM hz
    go_wp2_with fail
    refine (place_calls _ _ _ (by omega) (by omega)).mono ?_
    rintro e w2 ⟨rfl, hg⟩
    have HM := Aside0.mk (HM.out.grown hg (by simp))
    have hb2 := hb.grown hg hb.size (fun j hj => by cases hj)
    clear hg hb
    have k0 := Int.emod_nonneg a0 (show (256 : Int) ≠ 0 by omega)
    have k1 := Int.emod_lt_of_pos a0 (show (0 : Int) < 256 by omega)
    generalize a0 % 256 = kk at *
    obtain ⟨k, rfl⟩ := Int.eq_ofNat_of_zero_le k0
    clear k0
    go_wp2_with fail
    go_loopw [7] (fun i wr => ∃ j : Nat, i = .int .i64 j ∧ 1 ≤ j ∧ j ≤ k + 1 ∧ Aside0 (Mp wr w.heap.size (Fj j)) ∧ Below w.heap.size w wr)
      (fun i _ => k + 1 - (intOf i).toNat)
    case atStart => exact ⟨1, rfl, by omega, by omega, HM, hb2⟩
    case round =>
      clear HM hb2
      obtain ⟨j, rfl, hj1, hj2, HM, hb2⟩ := hrel
      by_cases hlt : j ≤ k
      · have d2 : decide ((j : Int) ≤ (k : Int)) = true := decide_eq_true (by omega)
        have hf := Fj_first j hj1 (by omega)
        rw [Nat.mod_eq_of_lt (by omega)] at hf
        have HF := Aside0.mk hf
        clear hf
        go_wp2_with fail
        refine (first_calls _ _ j _ HM.out HF.out).mono ?_
        rintro e w3 ⟨rfl, rfl⟩
        go_wp2_with fail
        refine (set_in _ _ j ((48 : Int) + (j : Int)) _ HM.out (by omega) (by omega) (by omega) (by omega)).mono ?_
        rintro e w3 ⟨rfl, hM, hg⟩
        rw [Fj_set j hj1 (by omega)] at hM
        have hb3 := below_grown hb2 hg (Nat.le_refl _) hb2.size
        have HM3 := Aside0.mk hM
        clear hM hg
        go_wp2_with fail
        go_roundw
        case rel => exact ⟨j + 1, by go_num, by omega, by omega, HM3, hb3⟩
        case measure => simp only [intOf]; (try rw [w64 (by omega) (by omega)]); omega
      · have d2 : decide ((j : Int) ≤ (k : Int)) = false := decide_eq_false (by omega)
        obtain rfl : j = k + 1 := by omega
        have HF := Aside0.mk (Fj_first (k + 1) hj1 (by omega))
        obtain ⟨r, hr⟩ : ∃ r, (k + 1) % 256 = r := ⟨_, rfl⟩
        have hr2 : ((k : Int) + 1) % 256 = (r : Int) := by omega
        rw [hr] at HF
        clear hr hj1 hj2
        go_wp2_with fail
        refine (first_calls _ _ r _ HM.out HF.out).mono ?_
        rintro e w3 ⟨rfl, rfl⟩
        go_wp2_with fail
        clear hr2
        go_loopw [8] (fun i wr => ∃ q : Nat, i = .int .i64 q ∧ q ≤ l1.length ∧ Aside0 (Mp wr w.heap.size (Fj (k + 1))) ∧ Below w.heap.size w wr)
          (fun i _ => l1.length - (intOf i).toNat)
        case atStart => exact ⟨0, rfl, by omega, HM, hb2⟩
        case round =>
          clear HM hb2
          obtain ⟨q, rfl, hq, HM, hb2⟩ := hrel
          by_cases hgo : q < l1.length ∧ 0 < k
          · obtain ⟨hg1, hg2⟩ := hgo
            have d3 : decide ((q : Int) < (l1.length : Int)) = true := decide_eq_true (by omega)
            have d4 : decide ((0 : Int) < (k : Int)) = true := decide_eq_true (by omega)
            obtain ⟨ad, ead, hx0⟩ := Kd.at_int HR1.out (q : Int) (by omega) (by omega)
            cases ead
            replace hx0 := (hb2.cell (World.block_lt_of_cell? w _ hx0)).trans hx0
            simp only [Int.toNat_natCast] at hx0
            generalize rd l1 (q : Int) = v at hx0
            go_wp2_with fail
            refine (place_calls _ _ _ (by omega) (by omega)).mono ?_
            rintro e w3 ⟨rfl, hg⟩
            have HM2 := Aside0.mk (HM.out.grown hg (by simp))
            have hb3 := hb2.grown hg hb2.size (fun j hj => by cases hj)
            clear hg hb2 HM hx0
            have m0 := Int.emod_nonneg v (show (k : Int) ≠ 0 by omega)
            have m1 := Int.emod_lt_of_pos v (show (0 : Int) < (k : Int) by omega)
            generalize v % (k : Int) = xx at *
            obtain ⟨x, rfl⟩ := Int.eq_ofNat_of_zero_le m0
            clear m0
            have x1 : (1 : Int) ≤ ((x + 1 : Nat) : Int) := by omega
            have x2 : ((x + 1 : Nat) : Int) ≤ 255 := by omega
            have e1 : (1 : Int) + (x : Int) = ((x + 1 : Nat) : Int) := by omega
            have G0 := Aside0.mk (Fj_zero (k + 1) (x + 1) (by omega))
            have GF := Aside0.mk (Fj_gone (k + 1) (x + 1) (by omega) (by omega) (by omega))
            have GA := Aside0.mk (Fj_again (k + 1) (x + 1) (by omega) (by omega) (by omega))
            have GB := Aside0.mk (Fj_back (k + 1) (x + 1) (by omega) (by omega) (by omega))
            have E1 := Aside0.mk e1
            clear e1
            go_wp2_with fail
            rw [E1.out]
            generalize hy : x + 1 = y at *
            clear E1 hy
            refine (set_in _ _ y 0 _ HM2.out (by omega) (by omega) (by omega) (by omega)).mono ?_
            rintro e w4 ⟨rfl, hM, hg⟩
            have hb4 := below_grown hb3 hg (Nat.le_refl _) hb3.size
            have HM3 := Aside0.mk hM
            clear hM hg hb3 HM2
            go_wp2_with fail
            refine (get_in _ _ y _ HM3.out (by omega) (by omega)).mono ?_
            rintro e w5 ⟨rfl, rfl⟩
            rw [G0.out]
            go_wp2_with fail
            refine (first_calls _ _ y _ HM3.out GF.out).mono ?_
            rintro e w5 ⟨rfl, rfl⟩
            go_wp2_with fail
            refine (set_in _ _ y ((48 : Int) + (y : Int)) _ HM3.out (by omega) (by omega) (by omega) (by omega)).mono ?_
            rintro e w5 ⟨rfl, hM, hg⟩
            rw [GA.out] at hM
            have hb5 := below_grown hb4 hg (Nat.le_refl _) hb4.size
            have HM4 := Aside0.mk hM
            clear hM hg hb4 HM3
            go_wp2_with fail
            refine (get_in _ _ y _ HM4.out (by omega) (by omega)).mono ?_
            rintro e w6 ⟨rfl, rfl⟩
            rw [GB.out]
            go_wp2_with fail
            go_roundw
            case rel => exact ⟨q + 1, by go_num, by omega, HM4, hb5⟩
            case measure => simp only [intOf]; (try rw [w64 (by omega) (by omega)]); omega
          · have hdec : (¬ q < l1.length) ∨ (q < l1.length ∧ ¬ 0 < k) := by
              by_cases h : q < l1.length
              · exact Or.inr ⟨h, fun h2 => hgo ⟨h, h2⟩⟩
              · exact Or.inl h
            have HN := Aside0.mk (Fj_nodes (k + 1) (by omega) (by omega))
            have hMl : ((List.range k).map fun i : Nat => (i : Int) + 1).length = k := by rw [List.length_map, List.length_range]
            have hMat : ∀ n, n < k → rd ((List.range k).map fun i : Nat => (i : Int) + 1) (n : Int) = (n : Int) + 1 := fun n hn => by
              unfold rd
              rw [Int.toNat_natCast, List.getD_eq_getElem?_getD, List.getElem?_map, List.getElem?_range hn]
              rfl
            rw [show k + 1 - 1 = k by omega] at HN
            generalize ((List.range k).map fun i : Nat => (i : Int) + 1) = M at *
            have HMl := Aside0.mk hMl
            have HMat := Aside0.mk hMat
            clear hMl hMat hgo
            rcases hdec with d3 | ⟨d3, d4⟩ <;> (
              go_wp2_with fail
              refine (nodes_calls _ _ _ HM.out).mono ?_
              rintro e w3 ⟨v, rfl, HO, hb3⟩
              rw [HN.out] at HO
              have HM2 := Aside0.mk (HM.out.below hb3 HM.out.lt)
              have hb4 := below_step hb2 hb3
              obtain ⟨Ao, co, rfl⟩ := Kd.R_slice HO
              obtain ⟨_, hco, hC⟩ := Kd.R_reads' HO
              have HC := Aside0.mk hC
              rw [HMl.out] at HC ⊢
              clear HO hC hb3 hb2 HM hco HN
              go_wp2_with fail
              go_loopw [11] (fun i wr => ∃ p : Nat, i = .int .i64 p ∧ p ≤ k ∧ w3 = wr)
                (fun i _ => k - (intOf i).toNat)
              case atStart => exact ⟨0, rfl, by omega, rfl⟩
              case round =>
                obtain ⟨p, rfl, hp, rfl⟩ := hrel
                by_cases hlt : p < k
                · have d5 : decide ((p : Int) < (k : Int)) = true := decide_eq_true (by omega)
                  obtain ⟨ad, ead, hx0⟩ := Kd.at_int HC.out (p : Int) (by omega) (by omega)
                  cases ead
                  simp only [Int.toNat_natCast] at hx0
                  rw [HMat.out p hlt] at hx0
                  go_wp2_with fail
                  go_roundw
                  case rel => exact ⟨p + 1, by go_num, by omega, by first | rfl | trivial⟩
                  case measure => simp only [intOf]; (try rw [w64 (by omega) (by omega)]); omega
                · have d5 : decide ((p : Int) < (k : Int)) = false := decide_eq_false (by omega)
                  clear HC
                  go_wp2_with fail
                  refine (set_out _ 0 50 _ (by omega)).mono ?_
                  rintro e w4 ⟨rfl, rfl⟩
                  go_wp2_with fail
                  refine (set_out _ 256 50 _ (by omega)).mono ?_
                  rintro e w4 ⟨rfl, rfl⟩
                  go_wp2_with fail
                  refine (set_out _ 1 16384 _ (by omega)).mono ?_
                  rintro e w4 ⟨rfl, rfl⟩
                  go_wp2_with fail
                  refine (set_out _ 1 (-1) _ (by omega)).mono ?_
                  rintro e w4 ⟨rfl, rfl⟩
                  go_wp2_with fail
                  refine (awake_calls _).mono ?_
                  rintro e w4 ⟨rfl, hb5⟩
                  have hb6 := below_step hb4 hb5
                  go_wp2_with fail
                  go_ret
                  exact ⟨rfl, hb6⟩)
end Go.Proofs.Ytbdghlneiblkcaa.Pure
