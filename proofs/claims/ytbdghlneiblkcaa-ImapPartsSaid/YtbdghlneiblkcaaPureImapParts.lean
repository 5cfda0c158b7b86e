/- ImapParts answers true for every list: the four parts make the map again. Conditions: none. -/
import Derived.Test.YtbdghlneiblkcaaImapE
namespace Go.Proofs.Ytbdghlneiblkcaa.Pure
open Go.RowKit Go.Proofs.YtbdghlneiblkcaaW.PrintWords Go.Proofs.YtbdghlneiblkcaaW.PrintLast Go.Proofs.YtbdghlneiblkcaaW.PrintMore
open Go.Proofs.Ytbdghlneiblkcaa.Aid Go.Proofs.Ytbdghlneiblkcaa.Imap
set_option linter.unusedVariables false
set_option linter.unusedSimpArgs false

set_option maxHeartbeats 8000000 in
set_option maxRecDepth 100000 in
theorem ImapParts_walk (A0 : Option Addr) (c0 : Nat) (l0 : List Int) (w : World) (hr0 : Kd.C (Kd.int .i64) w A0 l0.length l0) (hc0 : l0.length ≤ c0) (w0 : l0.length ≤ maxLen ∧ ∀ x_ ∈ l0, (Lit.int .i64 x_).wf = true) :
    Calls Try.prog 9 #[.slice A0 l0.length c0] w fun e w' => e = .returned (.bool true) ∧ Below w.heap.size w w' := by
  have hmax : l0.length ≤ 9223372036854775807 := Kd.C_max hr0
  have HR0 := Aside0.mk hr0
  clear hr0 w0
  have hcase : (400 < l0.length) ∨ ¬ (400 < l0.length) := by omega
  go_enter Try.func9, Try.ntmps9
  go_wp2_with fail
  refine (new_calls _).mono ?_
  rintro e w1 ⟨rfl, hM, hb, hz⟩
  have HM := Aside0.mk hM
  have HZ := Aside0.mk hz
  clear hM hz
  go_wp2_with fail
  refine (new_calls _).mono ?_
  rintro e w2 ⟨rfl, hN, hb2, hz2⟩
  have HM2 := Aside0.mk (HM.out.below hb2 HM.out.lt)
  have HN2 := Aside0.mk hN
  have HB := below_step hb hb2
  rw [HZ.out] at HN2 ⊢
  clear hN hz2 hb hb2 HM HZ
  obtain ⟨gm, hgm⟩ : ∃ gm, gm = w.heap.size := ⟨_, rfl⟩
  obtain ⟨gn, hgn⟩ : ∃ gn, gn = w.heap.size + 1 := ⟨_, rfl⟩
  have h1 : w.heap.size ≤ gm := by omega
  have h2 : w.heap.size ≤ gn := by omega
  have h3 : gm < gn := by omega
  rw [← hgm] at HM2
  rw [← hgn] at HN2
  have HGM := Aside0.mk hgm
  have HGN := Aside0.mk hgn
  rw [← HGN.out, ← HGM.out]
  clear hgm hgn
  rcases hcase with hlen | hlen
  · go_wp2_with fail
    refine (awake_calls _).mono ?_
    rintro e w3 ⟨rfl, hb3⟩
    have hb4 := below_step HB hb3
    go_wp2_with fail
    go_ret
    exact ⟨rfl, hb4⟩
  · go_wp2_with fail
    go_loopw [5] (fun i wr => ∃ q : Nat, i = .int .i64 q ∧ q ≤ l0.length ∧ Aside0 (∃ L, GoodL L ∧ Mp wr gm L ∧ Mp wr gn Z256) ∧ Below w.heap.size w wr)
      (fun i _ => l0.length - (intOf i).toNat)
    case atStart => exact ⟨0, rfl, by omega, ⟨_, good_zero, HM2.out, HN2.out⟩, HB⟩
    case round =>
      clear HM2 HN2 HB
      obtain ⟨q, rfl, hq, ⟨L, hG, hM, hN⟩, HB⟩ := hrel
      have HG := Aside0.mk hG
      have HM := Aside0.mk hM
      have HN := Aside0.mk hN
      clear hG hM hN
      by_cases hlt : q < l0.length
      · obtain ⟨ad, ead, hx0⟩ := Kd.at_int HR0.out (q : Int) (by omega) (by omega)
        cases ead
        replace hx0 := (HB.cell (World.block_lt_of_cell? w _ hx0)).trans hx0
        simp only [Int.toNat_natCast] at hx0
        generalize rd l0 (q : Int) = x at hx0
        go_wp2_with fail
        refine (place_calls _ _ _ (by omega) (by omega)).mono ?_
        rintro e w3 ⟨rfl, hg⟩
        have HM3 := Aside0.mk (HM.out.grown hg (by simp))
        have HN3 := Aside0.mk (HN.out.grown hg (by simp))
        have hb3 := HB.grown hg HB.size (fun j hj => by cases hj)
        clear hg HB HM HN hx0
        have m0 := Int.emod_nonneg x (show (16777216 : Int) ≠ 0 by omega)
        have m1 := Int.emod_lt_of_pos x (show (0 : Int) < 16777216 by omega)
        generalize x % 16777216 = v at *
        obtain ⟨n, hn⟩ := Int.eq_ofNat_of_zero_le (show 0 ≤ 1 + v % 255 by omega)
        have hn1 : 1 ≤ n := by omega
        have hn2 : n ≤ 255 := by omega
        have hs1 : 0 ≤ v / 255 % 16384 := by omega
        have hs2 : v / 255 % 16384 < 16384 := by omega
        obtain ⟨sc, hsc⟩ : ∃ sc, v / 255 % 16384 = sc := ⟨_, rfl⟩
        rw [hsc] at hs1 hs2
        have HN1 := Aside0.mk hn
        have HSC := Aside0.mk hsc
        clear hn hsc
        go_wp2_with fail
        rw [HN1.out, HSC.out]
        refine (set_in _ _ n sc _ HM3.out (by omega) (by omega) (by omega) (by omega)).mono ?_
        rintro e w4 ⟨rfl, hM, hg⟩
        have hb4 := below_grown hb3 hg h1 hb3.size
        have HN4 := Aside0.mk (HN3.out.grown hg (by simp; omega))
        have HG4 := Aside0.mk (good_set HG.out n sc hn1 hs1 hs2)
        have HM4 := Aside0.mk hM
        clear hM hg hb3 HM3 HN3
        go_wp2_with fail
        go_roundw
        case rel => exact ⟨q + 1, by go_num, by omega, ⟨_, HG4.out, HM4.out, HN4.out⟩, hb4⟩
        case measure => simp only [intOf]; (try rw [w64 (by omega) (by omega)]); omega
      · rw [← PL_zero L] at HN
        go_wp2_with fail
        go_loopw [7] (fun i wr => ∃ p : Nat, i = .int .i64 p ∧ p ≤ 4 ∧ Aside0 (Mp wr gm L) ∧ Aside0 (Mp wr gn (PL L p)) ∧ Below w.heap.size w wr)
          (fun i _ => 4 - (intOf i).toNat)
        case atStart => exact ⟨0, rfl, by omega, HM, HN, HB⟩
        case round =>
          clear HM HN HB
          obtain ⟨p, rfl, hp, HM, HN, HB⟩ := hrel
          by_cases hlt : p < 4
          · have hsz := put_size L p HG.out.1 hlt
            have HSz : Aside0 (((putF L p).size : Int) ≤ 4611686018427387904) := ⟨by rw [hsz]; omega⟩
            have HPT := Aside0.mk (PL_takes HG.out p hlt)
            have HPS := Aside0.mk (PL_step HG.out p hlt)
            clear hsz
            go_wp2_with fail
            refine (put_in _ _ p _ HM.out hlt).mono ?_
            rintro e w3 ⟨rfl, hb3⟩
            have HM3 := Aside0.mk (HM.out.below hb3 HM.out.lt)
            have HN3 := Aside0.mk (HN.out.below hb3 HN.out.lt)
            have HB3 := below_step HB hb3
            clear hb3 HB HM HN
            go_wp2_with fail
            refine (take_yes _ _ p _ _ HN3.out hlt HSz.out HPT.out).mono ?_
            rintro e w4 ⟨rfl, hN4, hg⟩
            rw [HPS.out] at hN4
            have HM4 := Aside0.mk (HM3.out.grown hg (by simp; omega))
            have HN4 := Aside0.mk hN4
            have HB4 := below_grown HB3 hg h2 HB3.size
            clear hg hN4 HM3 HN3 HB3
            go_wp2_with fail
            refine (put_out _ _ _ (by omega)).mono ?_
            rintro e w5 ⟨rfl, rfl⟩
            go_wp2_with fail
            refine (put_out _ _ _ (by omega)).mono ?_
            rintro e w5 ⟨rfl, rfl⟩
            go_wp2_with fail
            refine (put_in _ _ p _ HM4.out hlt).mono ?_
            rintro e w5 ⟨rfl, hb5⟩
            have HM5 := Aside0.mk (HM4.out.below hb5 HM4.out.lt)
            have HN5 := Aside0.mk (HN4.out.below hb5 HN4.out.lt)
            have HB5 := below_step HB4 hb5
            clear hb5 HB4 HM4 HN4
            go_wp2_with fail
            refine (take_out _ _ _ _ (by omega)).mono ?_
            rintro e w6 ⟨rfl, rfl⟩
            go_wp2_with fail
            go_roundw
            case rel => exact ⟨p + 1, by go_num, by omega, HM5, HN5, HB5⟩
            case measure => simp only [intOf]; (try rw [w64 (by omega) (by omega)]); omega
          · obtain rfl : p = 4 := by omega
            rw [PL_four HG.out] at HN
            rw [show ((4 : Nat) : Int) = 4 from rfl]
            go_wp2_with fail
            go_loopw [8] (fun i wr' => ∃ k : Nat, i = .int .i64 k ∧ 1 ≤ k ∧ k ≤ 256 ∧ wr = wr')
              (fun i _ => 256 - (intOf i).toNat)
            case atStart => exact ⟨1, rfl, by omega, by omega, rfl⟩
            case round =>
              obtain ⟨k, rfl, hk1, hk2, rfl⟩ := hrel
              by_cases hlt : k ≤ 255
              · obtain ⟨y, hy⟩ : ∃ y, L.getD k 0 = y := ⟨_, rfl⟩
                have HY := Aside0.mk hy
                clear hy
                go_wp2_with fail
                refine (get_in _ _ k _ HM.out (by omega) (by omega)).mono ?_
                rintro e w3 ⟨rfl, rfl⟩
                rw [HY.out]
                go_wp2_with fail
                refine (get_in _ _ k _ HN.out (by omega) (by omega)).mono ?_
                rintro e w3 ⟨rfl, rfl⟩
                rw [HY.out]
                have hyy : (y != y) = false := by simp
                go_wp2_with fail
                go_roundw
                case rel => exact ⟨k + 1, by go_num, by omega, by omega, by first | rfl | trivial⟩
                case measure => simp only [intOf]; (try rw [w64 (by omega) (by omega)]); omega
              · obtain ⟨r, hr⟩ := first_exists L
                have HF := Aside0.mk hr
                clear hr
                go_wp2_with fail
                refine (first_calls _ _ r _ HN.out HF.out).mono ?_
                rintro e w3 ⟨rfl, rfl⟩
                go_wp2_with fail
                refine (first_calls _ _ r _ HM.out HF.out).mono ?_
                rintro e w3 ⟨rfl, rfl⟩
                go_wp2_with fail
                refine (awake_calls _).mono ?_
                rintro e w3 ⟨rfl, hb3⟩
                have hb4 := below_step HB hb3
                go_wp2_with fail
                go_ret
                exact ⟨rfl, hb4⟩
end Go.Proofs.Ytbdghlneiblkcaa.Pure
