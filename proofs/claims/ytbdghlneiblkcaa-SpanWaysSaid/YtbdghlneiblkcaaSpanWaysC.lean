/- SpanWays' walk, where the first block's way is of kind 2: unlike blocks have unlike ways, each within its bounds; pointers there and back. Conditions: none. -/
import Derived.Test.YtbdghlneiblkcaaSpanWaysP
namespace Go.Proofs.Ytbdghlneiblkcaa.Pure
open Go.RowKit Go.Proofs.Ytbdghlneiblkcaa.PSpan Go.Proofs.YtbdghlneiblkcaaW.PrintWords Go.Proofs.YtbdghlneiblkcaaW.PrintLast Go.Proofs.YtbdghlneiblkcaaW.PrintMore
open Go.Proofs.Ytbdghlneiblkcaa.Aid
open Go.Proofs.Ytbdghlneiblkcaa.Imap (place_calls grown_drewN)
set_option linter.unusedVariables false
set_option linter.unusedSimpArgs false

set_option maxHeartbeats 16000000 in
set_option maxRecDepth 100000 in
theorem ways_20 (a0 a1 : Int) (A2 : Option Addr) (c2 : Nat) (l2 : List Int) (w : World) (hr2 : Kd.C (Kd.int .i64) w A2 l2.length l2) (hc2 : l2.length ≤ c2) (w0 : (Lit.int .i64 a0).wf = true) (w1 : (Lit.int .i64 a1).wf = true) (w2 : l2.length ≤ maxLen ∧ ∀ x_ ∈ l2, (Lit.int .i64 x_).wf = true) (hK : Aside0 (kindF (a0 % 588) = 2 ∧ 0 ≤ kidF (a0 % 588) ∧ kidF (a0 % 588) < 8 ∧ 0 ≤ atF (a0 % 588) ∧ atF (a0 % 588) < 64)) (hU : Aside0 ((a0 % 588) = (a1 % 588) ∧ ((a0 % 588) == (a1 % 588)) = true ∧ kindF (a1 % 588) = kindF (a0 % 588) ∧ kidF (a1 % 588) = kidF (a0 % 588) ∧ atF (a1 % 588) = atF (a0 % 588))) :
    Calls Try.prog 6 #[.int .i64 a0, .int .i64 a1, .slice A2 l2.length c2] w fun e w' => e = .returned (.bool true) ∧ Below w.heap.size w w' := by
  have hmax : l2.length ≤ 9223372036854775807 := Kd.C_max hr2
  have HR2 := Aside0.mk hr2
  clear hr2 w0 w1 w2
  go_enter Try.func6, Try.ntmps6
  go_wp2_with fail
  refine (place_calls _ _ _ (by omega) (by omega)).mono ?_
  rintro e w3 ⟨rfl, hg⟩
  have hb3 := (Below.refl w.heap.size w).grown hg (Nat.le_refl _) (fun j hj => by cases hj)
  clear hg
  go_wp2_with fail
  refine (place_calls _ _ _ (by omega) (by omega)).mono ?_
  rintro e w4 ⟨rfl, hg⟩
  have hb4 := hb3.grown hg hb3.size (fun j hj => by cases hj)
  clear hg hb3
  have x0 := Int.emod_nonneg a0 (show (588 : Int) ≠ 0 by omega)
  have x1 := Int.emod_lt_of_pos a0 (show (0 : Int) < 588 by omega)
  have y0 := Int.emod_nonneg a1 (show (588 : Int) ≠ 0 by omega)
  have y1 := Int.emod_lt_of_pos a1 (show (0 : Int) < 588 by omega)
  generalize a0 % 588 = x at *
  generalize a1 % 588 = y at *
  have HX := Aside0.mk (way_f x x0 x1 1 (Nat.le_refl _))
  have HY := Aside0.mk (way_f y y0 y1 1 (Nat.le_refl _))
  have HZ : Aside0 (span_Way.f 1 (588 + x) = some (0, 0, 0, false)) := ⟨way_no (588 + x) (by omega) 1 (Nat.le_refl _)⟩
  generalize kindF x = a at *
  generalize kidF x = b at *
  generalize atF x = c at *
  generalize kindF y = d at *
  generalize kidF y = e at *
  generalize atF y = f at *
  go_wp2_with fail
  refine (span_Way.calls 1 x a b c true _ HX.out).mono ?_
  rintro e_ w5 ⟨rfl, hb⟩
  have hb5 := below_step hb4 hb
  clear hb hb4 HX
  go_wp2_with fail
  refine (span_Way.calls 1 y d e f true _ HY.out).mono ?_
  rintro e_ w6 ⟨rfl, hb⟩
  have hb6 := below_step hb5 hb
  clear hb hb5 HY
  go_wp2_with fail
  refine (span_Way.calls 1 (588 + x) 0 0 0 false _ HZ.out).mono ?_
  rintro e_ w7 ⟨rfl, hb⟩
  have hb7 := below_step hb6 hb
  clear hb hb6 HZ
  have HB := hb7
  clear hb7
  obtain ⟨rfl, k3, k4, k1, k2⟩ := hK.out
  obtain ⟨rfl, q0, rfl, rfl, rfl⟩ := hU.out
  clear hK hU
  go_wp2_with fail
  clear q0
  go_loopw [21, 22] (fun v i wr => ∃ k : Nat, k ≤ 64 ∧ i = .int .i64 k ∧ Aside0 (Kd.R (Kd.int .i64) 3 wr w.heap.size (fun _ => True) v (buildM l2 k)) ∧ Below w.heap.size w wr)
    (fun _ i _ => 64 - (intOf i).toNat)
  case atStart => exact ⟨0, Nat.zero_le _, rfl, ⟨Kd.R_nil _ _ _ _ _⟩, HB⟩
  case round =>
    clear HB
    obtain ⟨k, hk, rfl, HO, HB⟩ := hrel
    by_cases hlt : k < 64
    · have hlen := build_len l2 k
      have hst := build_succ l2 k
      have HST := Aside0.mk hst
      have HLN := Aside0.mk hlen
      clear hst hlen
      by_cases hl : k < l2.length
      · rw [if_pos hl] at HST
        obtain ⟨ad, ead, hx0⟩ := Kd.at_int HR2.out (k : Int) (by omega) (by omega)
        cases ead
        replace hx0 := (HB.cell (World.block_lt_of_cell? w _ hx0)).trans hx0
        simp only [Int.toNat_natCast] at hx0
        have hrd : rd l2 (k : Int) = l2.getD k 0 := by unfold rd; rw [Int.toNat_natCast]
        rw [hrd] at hx0
        clear hrd
        generalize l2.getD k 0 = z at *
        go_wp2_with fail
        refine (place_calls _ _ _ (by omega) (by omega)).mono ?_
        rintro e_ w8 ⟨rfl, hg⟩
        have HB8 := HB.grown hg HB.size (fun j hj => by cases hj)
        have hdn := Below.size HB
        have HO8 : Kd.R (Kd.int .i64) 3 w8 w.heap.size (fun _ => True) _ (buildM l2 k) := Kd.R_grown HO.out hg (fun j hj => by first | (cases hj; done) | exact fun h2 => by cases h2)
        have q1' := Int.emod_nonneg z (show (65536 : Int) ≠ 0 by omega)
        have q2' := Int.emod_lt_of_pos z (show (0 : Int) < 65536 by omega)
        generalize z % 65536 = zz at *
        clear hg HB HO hx0
        go_wp2_with (first
          | ((with_reducible refine gate_builtin (b := .append) (xs := #[.tmp 132, .tmp 134]) rfl ?_); at_builtin; refine Kd.R_append (Kd.int .i64) (w0 := w) w.heap.size rfl (.tmp 132) (.tmp 134) 22 3 (.int .i64 0) 8 rfl Try.underlying22 info3 rfl (by decide) (by omega) _ (buildM l2 k) zz [.int .i64 zz] (fun _ => True) (fun _ => False) rfl rfl ?aP (fun _ hk => hk.elim) ?aF HO8 HB8 ?aS ?aL ?_; (case aP => exact rfl); (case aF => intro j hj; trivial); (case aS => exact HB8.size); (case aL => rw [HLN.out]; omega); intro v111 w14 ho hb hg hat)
          | fail)
        go_roundw
        case rel => exact ⟨k + 1, by omega, by go_num, ⟨by rw [HST.out]; exact ho⟩, hb⟩
        case measure => simp only [intOf]; (try rw [w64 (by omega) (by omega)]); omega
      · rw [if_neg hl] at HST
        have HO8 := HO.out
        clear HO
        go_wp2_with (first
          | ((with_reducible refine gate_builtin (b := .append) (xs := #[.tmp 132, .tmp 134]) rfl ?_); at_builtin; refine Kd.R_append (Kd.int .i64) (w0 := w) w.heap.size rfl (.tmp 132) (.tmp 134) 22 3 (.int .i64 0) 8 rfl Try.underlying22 info3 rfl (by decide) (by omega) _ (buildM l2 k) (k : Int) [.int .i64 k] (fun _ => True) (fun _ => False) rfl rfl ?aP (fun _ hk => hk.elim) ?aF HO8 HB ?aS ?aL ?_; (case aP => exact rfl); (case aF => intro j hj; trivial); (case aS => exact HB.size); (case aL => rw [HLN.out]; omega); intro v111 w14 ho hb hg hat)
          | fail)
        go_roundw
        case rel => exact ⟨k + 1, by omega, by go_num, ⟨by rw [HST.out]; exact ho⟩, hb⟩
        case measure => simp only [intOf]; (try rw [w64 (by omega) (by omega)]); omega
    · obtain rfl : k = 64 := by omega
      have hml := build_len l2 64
      obtain ⟨K1, h1⟩ := pointers (buildM l2 64) hml (build_bd l2 64 (Nat.le_refl _))
      obtain ⟨K2, h2⟩ := same_self (buildM l2 64) (by rw [hml]; omega)
      obtain ⟨K3, h3⟩ := s_awake
      have H1 := Aside0.mk (h1 K1 (Nat.le_refl _))
      have H2 := Aside0.mk (h2 K2 (Nat.le_refl _))
      have H3 := Aside0.mk (h3 K3 (Nat.le_refl _))
      have HML := Aside0.mk hml
      clear h1 h2 h3 hml
      generalize buildM l2 64 = M at *
      have HO8 := HO.out
      obtain ⟨Am, cm, rfl⟩ := Kd.R_slice HO8
      obtain ⟨_, hcm, hC⟩ := Kd.R_reads' HO8
      have HC := Aside0.mk hC
      clear HO8 hC HO
      rw [show ((64 : Nat) : Int) = 64 from rfl]
      go_wp2_with fail
      refine (span_Bytes.calls Am cm M _ _ HC.out hcm rfl).mono ?_
      rintro e_ w8 ⟨rfl, hb⟩
      have HC8 := Aside0.mk (Kd.C_below HC.out hb)
      have HB8 := below_step HB hb
      clear hb HB HC
      go_wp2_with fail
      refine (span_Pointers.calls K1 _ M _ H1.out).mono ?_
      rintro e_ w9 ⟨v, rfl, HO, hb⟩
      have HC9 := Aside0.mk (Kd.C_below HC8.out hb)
      have HB9 := below_step HB8 hb
      obtain ⟨Ap, cp, rfl⟩ := Kd.R_slice HO
      obtain ⟨_, hcp, hC⟩ := Kd.R_reads' HO
      have HCp := Aside0.mk hC
      clear hb HB8 HC8 HO hC
      go_wp2_with fail
      refine (beguinagelaw00_SameInts.calls K2 Ap cp M Am cm M true _ HCp.out hcp HC9.out hcm H2.out).mono ?_
      rintro e_ w10 ⟨rfl, nd, hd⟩
      have HB10 : Below w.heap.size w w10 := by first | (rw [hd]; exact pw_below_drewN HB9 nd) | (rw [← hd]; exact pw_below_drewN HB9 nd)
      clear hd HB9 HCp HC9
      go_wp2_with fail
      refine (beguinagelaw10_awake.calls K3 true _ H3.out).mono ?_
      rintro e_ w11 ⟨rfl, hb⟩
      have HB11 := below_step HB10 hb
      go_wp2_with fail
      go_ret
      exact ⟨rfl, HB11⟩

set_option maxHeartbeats 16000000 in
set_option maxRecDepth 100000 in
theorem ways_21 (a0 a1 : Int) (A2 : Option Addr) (c2 : Nat) (l2 : List Int) (w : World) (hr2 : Kd.C (Kd.int .i64) w A2 l2.length l2) (hc2 : l2.length ≤ c2) (w0 : (Lit.int .i64 a0).wf = true) (w1 : (Lit.int .i64 a1).wf = true) (w2 : l2.length ≤ maxLen ∧ ∀ x_ ∈ l2, (Lit.int .i64 x_).wf = true) (hK : Aside0 (kindF (a0 % 588) = 2 ∧ 0 ≤ kidF (a0 % 588) ∧ kidF (a0 % 588) < 8 ∧ 0 ≤ atF (a0 % 588) ∧ atF (a0 % 588) < 64)) (hU : Aside0 (((a0 % 588) == (a1 % 588)) = false ∧ (kindF (a0 % 588) == kindF (a1 % 588)) = false)) :
    Calls Try.prog 6 #[.int .i64 a0, .int .i64 a1, .slice A2 l2.length c2] w fun e w' => e = .returned (.bool true) ∧ Below w.heap.size w w' := by
  have hmax : l2.length ≤ 9223372036854775807 := Kd.C_max hr2
  have HR2 := Aside0.mk hr2
  clear hr2 w0 w1 w2
  go_enter Try.func6, Try.ntmps6
  go_wp2_with fail
  refine (place_calls _ _ _ (by omega) (by omega)).mono ?_
  rintro e w3 ⟨rfl, hg⟩
  have hb3 := (Below.refl w.heap.size w).grown hg (Nat.le_refl _) (fun j hj => by cases hj)
  clear hg
  go_wp2_with fail
  refine (place_calls _ _ _ (by omega) (by omega)).mono ?_
  rintro e w4 ⟨rfl, hg⟩
  have hb4 := hb3.grown hg hb3.size (fun j hj => by cases hj)
  clear hg hb3
  have x0 := Int.emod_nonneg a0 (show (588 : Int) ≠ 0 by omega)
  have x1 := Int.emod_lt_of_pos a0 (show (0 : Int) < 588 by omega)
  have y0 := Int.emod_nonneg a1 (show (588 : Int) ≠ 0 by omega)
  have y1 := Int.emod_lt_of_pos a1 (show (0 : Int) < 588 by omega)
  generalize a0 % 588 = x at *
  generalize a1 % 588 = y at *
  have HX := Aside0.mk (way_f x x0 x1 1 (Nat.le_refl _))
  have HY := Aside0.mk (way_f y y0 y1 1 (Nat.le_refl _))
  have HZ : Aside0 (span_Way.f 1 (588 + x) = some (0, 0, 0, false)) := ⟨way_no (588 + x) (by omega) 1 (Nat.le_refl _)⟩
  generalize kindF x = a at *
  generalize kidF x = b at *
  generalize atF x = c at *
  generalize kindF y = d at *
  generalize kidF y = e at *
  generalize atF y = f at *
  go_wp2_with fail
  refine (span_Way.calls 1 x a b c true _ HX.out).mono ?_
  rintro e_ w5 ⟨rfl, hb⟩
  have hb5 := below_step hb4 hb
  clear hb hb4 HX
  go_wp2_with fail
  refine (span_Way.calls 1 y d e f true _ HY.out).mono ?_
  rintro e_ w6 ⟨rfl, hb⟩
  have hb6 := below_step hb5 hb
  clear hb hb5 HY
  go_wp2_with fail
  refine (span_Way.calls 1 (588 + x) 0 0 0 false _ HZ.out).mono ?_
  rintro e_ w7 ⟨rfl, hb⟩
  have hb7 := below_step hb6 hb
  clear hb hb6 HZ
  have HB := hb7
  clear hb7
  obtain ⟨rfl, k3, k4, k1, k2⟩ := hK.out
  obtain ⟨q0, q1⟩ := hU.out
  clear hK hU
  go_wp2_with fail
  clear q0
  go_loopw [21, 22] (fun v i wr => ∃ k : Nat, k ≤ 64 ∧ i = .int .i64 k ∧ Aside0 (Kd.R (Kd.int .i64) 3 wr w.heap.size (fun _ => True) v (buildM l2 k)) ∧ Below w.heap.size w wr)
    (fun _ i _ => 64 - (intOf i).toNat)
  case atStart => exact ⟨0, Nat.zero_le _, rfl, ⟨Kd.R_nil _ _ _ _ _⟩, HB⟩
  case round =>
    clear HB
    obtain ⟨k, hk, rfl, HO, HB⟩ := hrel
    by_cases hlt : k < 64
    · have hlen := build_len l2 k
      have hst := build_succ l2 k
      have HST := Aside0.mk hst
      have HLN := Aside0.mk hlen
      clear hst hlen
      by_cases hl : k < l2.length
      · rw [if_pos hl] at HST
        obtain ⟨ad, ead, hx0⟩ := Kd.at_int HR2.out (k : Int) (by omega) (by omega)
        cases ead
        replace hx0 := (HB.cell (World.block_lt_of_cell? w _ hx0)).trans hx0
        simp only [Int.toNat_natCast] at hx0
        have hrd : rd l2 (k : Int) = l2.getD k 0 := by unfold rd; rw [Int.toNat_natCast]
        rw [hrd] at hx0
        clear hrd
        generalize l2.getD k 0 = z at *
        go_wp2_with fail
        refine (place_calls _ _ _ (by omega) (by omega)).mono ?_
        rintro e_ w8 ⟨rfl, hg⟩
        have HB8 := HB.grown hg HB.size (fun j hj => by cases hj)
        have hdn := Below.size HB
        have HO8 : Kd.R (Kd.int .i64) 3 w8 w.heap.size (fun _ => True) _ (buildM l2 k) := Kd.R_grown HO.out hg (fun j hj => by first | (cases hj; done) | exact fun h2 => by cases h2)
        have q1' := Int.emod_nonneg z (show (65536 : Int) ≠ 0 by omega)
        have q2' := Int.emod_lt_of_pos z (show (0 : Int) < 65536 by omega)
        generalize z % 65536 = zz at *
        clear hg HB HO hx0
        go_wp2_with (first
          | ((with_reducible refine gate_builtin (b := .append) (xs := #[.tmp 132, .tmp 134]) rfl ?_); at_builtin; refine Kd.R_append (Kd.int .i64) (w0 := w) w.heap.size rfl (.tmp 132) (.tmp 134) 22 3 (.int .i64 0) 8 rfl Try.underlying22 info3 rfl (by decide) (by omega) _ (buildM l2 k) zz [.int .i64 zz] (fun _ => True) (fun _ => False) rfl rfl ?aP (fun _ hk => hk.elim) ?aF HO8 HB8 ?aS ?aL ?_; (case aP => exact rfl); (case aF => intro j hj; trivial); (case aS => exact HB8.size); (case aL => rw [HLN.out]; omega); intro v111 w14 ho hb hg hat)
          | fail)
        go_roundw
        case rel => exact ⟨k + 1, by omega, by go_num, ⟨by rw [HST.out]; exact ho⟩, hb⟩
        case measure => simp only [intOf]; (try rw [w64 (by omega) (by omega)]); omega
      · rw [if_neg hl] at HST
        have HO8 := HO.out
        clear HO
        go_wp2_with (first
          | ((with_reducible refine gate_builtin (b := .append) (xs := #[.tmp 132, .tmp 134]) rfl ?_); at_builtin; refine Kd.R_append (Kd.int .i64) (w0 := w) w.heap.size rfl (.tmp 132) (.tmp 134) 22 3 (.int .i64 0) 8 rfl Try.underlying22 info3 rfl (by decide) (by omega) _ (buildM l2 k) (k : Int) [.int .i64 k] (fun _ => True) (fun _ => False) rfl rfl ?aP (fun _ hk => hk.elim) ?aF HO8 HB ?aS ?aL ?_; (case aP => exact rfl); (case aF => intro j hj; trivial); (case aS => exact HB.size); (case aL => rw [HLN.out]; omega); intro v111 w14 ho hb hg hat)
          | fail)
        go_roundw
        case rel => exact ⟨k + 1, by omega, by go_num, ⟨by rw [HST.out]; exact ho⟩, hb⟩
        case measure => simp only [intOf]; (try rw [w64 (by omega) (by omega)]); omega
    · obtain rfl : k = 64 := by omega
      have hml := build_len l2 64
      obtain ⟨K1, h1⟩ := pointers (buildM l2 64) hml (build_bd l2 64 (Nat.le_refl _))
      obtain ⟨K2, h2⟩ := same_self (buildM l2 64) (by rw [hml]; omega)
      obtain ⟨K3, h3⟩ := s_awake
      have H1 := Aside0.mk (h1 K1 (Nat.le_refl _))
      have H2 := Aside0.mk (h2 K2 (Nat.le_refl _))
      have H3 := Aside0.mk (h3 K3 (Nat.le_refl _))
      have HML := Aside0.mk hml
      clear h1 h2 h3 hml
      generalize buildM l2 64 = M at *
      have HO8 := HO.out
      obtain ⟨Am, cm, rfl⟩ := Kd.R_slice HO8
      obtain ⟨_, hcm, hC⟩ := Kd.R_reads' HO8
      have HC := Aside0.mk hC
      clear HO8 hC HO
      rw [show ((64 : Nat) : Int) = 64 from rfl]
      go_wp2_with fail
      refine (span_Bytes.calls Am cm M _ _ HC.out hcm rfl).mono ?_
      rintro e_ w8 ⟨rfl, hb⟩
      have HC8 := Aside0.mk (Kd.C_below HC.out hb)
      have HB8 := below_step HB hb
      clear hb HB HC
      go_wp2_with fail
      refine (span_Pointers.calls K1 _ M _ H1.out).mono ?_
      rintro e_ w9 ⟨v, rfl, HO, hb⟩
      have HC9 := Aside0.mk (Kd.C_below HC8.out hb)
      have HB9 := below_step HB8 hb
      obtain ⟨Ap, cp, rfl⟩ := Kd.R_slice HO
      obtain ⟨_, hcp, hC⟩ := Kd.R_reads' HO
      have HCp := Aside0.mk hC
      clear hb HB8 HC8 HO hC
      go_wp2_with fail
      refine (beguinagelaw00_SameInts.calls K2 Ap cp M Am cm M true _ HCp.out hcp HC9.out hcm H2.out).mono ?_
      rintro e_ w10 ⟨rfl, nd, hd⟩
      have HB10 : Below w.heap.size w w10 := by first | (rw [hd]; exact pw_below_drewN HB9 nd) | (rw [← hd]; exact pw_below_drewN HB9 nd)
      clear hd HB9 HCp HC9
      go_wp2_with fail
      refine (beguinagelaw10_awake.calls K3 true _ H3.out).mono ?_
      rintro e_ w11 ⟨rfl, hb⟩
      have HB11 := below_step HB10 hb
      go_wp2_with fail
      go_ret
      exact ⟨rfl, HB11⟩

set_option maxHeartbeats 16000000 in
set_option maxRecDepth 100000 in
theorem ways_22 (a0 a1 : Int) (A2 : Option Addr) (c2 : Nat) (l2 : List Int) (w : World) (hr2 : Kd.C (Kd.int .i64) w A2 l2.length l2) (hc2 : l2.length ≤ c2) (w0 : (Lit.int .i64 a0).wf = true) (w1 : (Lit.int .i64 a1).wf = true) (w2 : l2.length ≤ maxLen ∧ ∀ x_ ∈ l2, (Lit.int .i64 x_).wf = true) (hK : Aside0 (kindF (a0 % 588) = 2 ∧ 0 ≤ kidF (a0 % 588) ∧ kidF (a0 % 588) < 8 ∧ 0 ≤ atF (a0 % 588) ∧ atF (a0 % 588) < 64)) (hU : Aside0 (((a0 % 588) == (a1 % 588)) = false ∧ kindF (a1 % 588) = kindF (a0 % 588) ∧ (kidF (a0 % 588) == kidF (a1 % 588)) = false)) :
    Calls Try.prog 6 #[.int .i64 a0, .int .i64 a1, .slice A2 l2.length c2] w fun e w' => e = .returned (.bool true) ∧ Below w.heap.size w w' := by
  have hmax : l2.length ≤ 9223372036854775807 := Kd.C_max hr2
  have HR2 := Aside0.mk hr2
  clear hr2 w0 w1 w2
  go_enter Try.func6, Try.ntmps6
  go_wp2_with fail
  refine (place_calls _ _ _ (by omega) (by omega)).mono ?_
  rintro e w3 ⟨rfl, hg⟩
  have hb3 := (Below.refl w.heap.size w).grown hg (Nat.le_refl _) (fun j hj => by cases hj)
  clear hg
  go_wp2_with fail
  refine (place_calls _ _ _ (by omega) (by omega)).mono ?_
  rintro e w4 ⟨rfl, hg⟩
  have hb4 := hb3.grown hg hb3.size (fun j hj => by cases hj)
  clear hg hb3
  have x0 := Int.emod_nonneg a0 (show (588 : Int) ≠ 0 by omega)
  have x1 := Int.emod_lt_of_pos a0 (show (0 : Int) < 588 by omega)
  have y0 := Int.emod_nonneg a1 (show (588 : Int) ≠ 0 by omega)
  have y1 := Int.emod_lt_of_pos a1 (show (0 : Int) < 588 by omega)
  generalize a0 % 588 = x at *
  generalize a1 % 588 = y at *
  have HX := Aside0.mk (way_f x x0 x1 1 (Nat.le_refl _))
  have HY := Aside0.mk (way_f y y0 y1 1 (Nat.le_refl _))
  have HZ : Aside0 (span_Way.f 1 (588 + x) = some (0, 0, 0, false)) := ⟨way_no (588 + x) (by omega) 1 (Nat.le_refl _)⟩
  generalize kindF x = a at *
  generalize kidF x = b at *
  generalize atF x = c at *
  generalize kindF y = d at *
  generalize kidF y = e at *
  generalize atF y = f at *
  go_wp2_with fail
  refine (span_Way.calls 1 x a b c true _ HX.out).mono ?_
  rintro e_ w5 ⟨rfl, hb⟩
  have hb5 := below_step hb4 hb
  clear hb hb4 HX
  go_wp2_with fail
  refine (span_Way.calls 1 y d e f true _ HY.out).mono ?_
  rintro e_ w6 ⟨rfl, hb⟩
  have hb6 := below_step hb5 hb
  clear hb hb5 HY
  go_wp2_with fail
  refine (span_Way.calls 1 (588 + x) 0 0 0 false _ HZ.out).mono ?_
  rintro e_ w7 ⟨rfl, hb⟩
  have hb7 := below_step hb6 hb
  clear hb hb6 HZ
  have HB := hb7
  clear hb7
  obtain ⟨rfl, k3, k4, k1, k2⟩ := hK.out
  obtain ⟨q0, rfl, q1⟩ := hU.out
  clear hK hU
  go_wp2_with fail
  clear q0
  go_loopw [21, 22] (fun v i wr => ∃ k : Nat, k ≤ 64 ∧ i = .int .i64 k ∧ Aside0 (Kd.R (Kd.int .i64) 3 wr w.heap.size (fun _ => True) v (buildM l2 k)) ∧ Below w.heap.size w wr)
    (fun _ i _ => 64 - (intOf i).toNat)
  case atStart => exact ⟨0, Nat.zero_le _, rfl, ⟨Kd.R_nil _ _ _ _ _⟩, HB⟩
  case round =>
    clear HB
    obtain ⟨k, hk, rfl, HO, HB⟩ := hrel
    by_cases hlt : k < 64
    · have hlen := build_len l2 k
      have hst := build_succ l2 k
      have HST := Aside0.mk hst
      have HLN := Aside0.mk hlen
      clear hst hlen
      by_cases hl : k < l2.length
      · rw [if_pos hl] at HST
        obtain ⟨ad, ead, hx0⟩ := Kd.at_int HR2.out (k : Int) (by omega) (by omega)
        cases ead
        replace hx0 := (HB.cell (World.block_lt_of_cell? w _ hx0)).trans hx0
        simp only [Int.toNat_natCast] at hx0
        have hrd : rd l2 (k : Int) = l2.getD k 0 := by unfold rd; rw [Int.toNat_natCast]
        rw [hrd] at hx0
        clear hrd
        generalize l2.getD k 0 = z at *
        go_wp2_with fail
        refine (place_calls _ _ _ (by omega) (by omega)).mono ?_
        rintro e_ w8 ⟨rfl, hg⟩
        have HB8 := HB.grown hg HB.size (fun j hj => by cases hj)
        have hdn := Below.size HB
        have HO8 : Kd.R (Kd.int .i64) 3 w8 w.heap.size (fun _ => True) _ (buildM l2 k) := Kd.R_grown HO.out hg (fun j hj => by first | (cases hj; done) | exact fun h2 => by cases h2)
        have q1' := Int.emod_nonneg z (show (65536 : Int) ≠ 0 by omega)
        have q2' := Int.emod_lt_of_pos z (show (0 : Int) < 65536 by omega)
        generalize z % 65536 = zz at *
        clear hg HB HO hx0
        go_wp2_with (first
          | ((with_reducible refine gate_builtin (b := .append) (xs := #[.tmp 132, .tmp 134]) rfl ?_); at_builtin; refine Kd.R_append (Kd.int .i64) (w0 := w) w.heap.size rfl (.tmp 132) (.tmp 134) 22 3 (.int .i64 0) 8 rfl Try.underlying22 info3 rfl (by decide) (by omega) _ (buildM l2 k) zz [.int .i64 zz] (fun _ => True) (fun _ => False) rfl rfl ?aP (fun _ hk => hk.elim) ?aF HO8 HB8 ?aS ?aL ?_; (case aP => exact rfl); (case aF => intro j hj; trivial); (case aS => exact HB8.size); (case aL => rw [HLN.out]; omega); intro v111 w14 ho hb hg hat)
          | fail)
        go_roundw
        case rel => exact ⟨k + 1, by omega, by go_num, ⟨by rw [HST.out]; exact ho⟩, hb⟩
        case measure => simp only [intOf]; (try rw [w64 (by omega) (by omega)]); omega
      · rw [if_neg hl] at HST
        have HO8 := HO.out
        clear HO
        go_wp2_with (first
          | ((with_reducible refine gate_builtin (b := .append) (xs := #[.tmp 132, .tmp 134]) rfl ?_); at_builtin; refine Kd.R_append (Kd.int .i64) (w0 := w) w.heap.size rfl (.tmp 132) (.tmp 134) 22 3 (.int .i64 0) 8 rfl Try.underlying22 info3 rfl (by decide) (by omega) _ (buildM l2 k) (k : Int) [.int .i64 k] (fun _ => True) (fun _ => False) rfl rfl ?aP (fun _ hk => hk.elim) ?aF HO8 HB ?aS ?aL ?_; (case aP => exact rfl); (case aF => intro j hj; trivial); (case aS => exact HB.size); (case aL => rw [HLN.out]; omega); intro v111 w14 ho hb hg hat)
          | fail)
        go_roundw
        case rel => exact ⟨k + 1, by omega, by go_num, ⟨by rw [HST.out]; exact ho⟩, hb⟩
        case measure => simp only [intOf]; (try rw [w64 (by omega) (by omega)]); omega
    · obtain rfl : k = 64 := by omega
      have hml := build_len l2 64
      obtain ⟨K1, h1⟩ := pointers (buildM l2 64) hml (build_bd l2 64 (Nat.le_refl _))
      obtain ⟨K2, h2⟩ := same_self (buildM l2 64) (by rw [hml]; omega)
      obtain ⟨K3, h3⟩ := s_awake
      have H1 := Aside0.mk (h1 K1 (Nat.le_refl _))
      have H2 := Aside0.mk (h2 K2 (Nat.le_refl _))
      have H3 := Aside0.mk (h3 K3 (Nat.le_refl _))
      have HML := Aside0.mk hml
      clear h1 h2 h3 hml
      generalize buildM l2 64 = M at *
      have HO8 := HO.out
      obtain ⟨Am, cm, rfl⟩ := Kd.R_slice HO8
      obtain ⟨_, hcm, hC⟩ := Kd.R_reads' HO8
      have HC := Aside0.mk hC
      clear HO8 hC HO
      rw [show ((64 : Nat) : Int) = 64 from rfl]
      go_wp2_with fail
      refine (span_Bytes.calls Am cm M _ _ HC.out hcm rfl).mono ?_
      rintro e_ w8 ⟨rfl, hb⟩
      have HC8 := Aside0.mk (Kd.C_below HC.out hb)
      have HB8 := below_step HB hb
      clear hb HB HC
      go_wp2_with fail
      refine (span_Pointers.calls K1 _ M _ H1.out).mono ?_
      rintro e_ w9 ⟨v, rfl, HO, hb⟩
      have HC9 := Aside0.mk (Kd.C_below HC8.out hb)
      have HB9 := below_step HB8 hb
      obtain ⟨Ap, cp, rfl⟩ := Kd.R_slice HO
      obtain ⟨_, hcp, hC⟩ := Kd.R_reads' HO
      have HCp := Aside0.mk hC
      clear hb HB8 HC8 HO hC
      go_wp2_with fail
      refine (beguinagelaw00_SameInts.calls K2 Ap cp M Am cm M true _ HCp.out hcp HC9.out hcm H2.out).mono ?_
      rintro e_ w10 ⟨rfl, nd, hd⟩
      have HB10 : Below w.heap.size w w10 := by first | (rw [hd]; exact pw_below_drewN HB9 nd) | (rw [← hd]; exact pw_below_drewN HB9 nd)
      clear hd HB9 HCp HC9
      go_wp2_with fail
      refine (beguinagelaw10_awake.calls K3 true _ H3.out).mono ?_
      rintro e_ w11 ⟨rfl, hb⟩
      have HB11 := below_step HB10 hb
      go_wp2_with fail
      go_ret
      exact ⟨rfl, HB11⟩

set_option maxHeartbeats 16000000 in
set_option maxRecDepth 100000 in
theorem ways_23 (a0 a1 : Int) (A2 : Option Addr) (c2 : Nat) (l2 : List Int) (w : World) (hr2 : Kd.C (Kd.int .i64) w A2 l2.length l2) (hc2 : l2.length ≤ c2) (w0 : (Lit.int .i64 a0).wf = true) (w1 : (Lit.int .i64 a1).wf = true) (w2 : l2.length ≤ maxLen ∧ ∀ x_ ∈ l2, (Lit.int .i64 x_).wf = true) (hK : Aside0 (kindF (a0 % 588) = 2 ∧ 0 ≤ kidF (a0 % 588) ∧ kidF (a0 % 588) < 8 ∧ 0 ≤ atF (a0 % 588) ∧ atF (a0 % 588) < 64)) (hU : Aside0 (((a0 % 588) == (a1 % 588)) = false ∧ kindF (a1 % 588) = kindF (a0 % 588) ∧ kidF (a1 % 588) = kidF (a0 % 588) ∧ (atF (a0 % 588) == atF (a1 % 588)) = false)) :
    Calls Try.prog 6 #[.int .i64 a0, .int .i64 a1, .slice A2 l2.length c2] w fun e w' => e = .returned (.bool true) ∧ Below w.heap.size w w' := by
  have hmax : l2.length ≤ 9223372036854775807 := Kd.C_max hr2
  have HR2 := Aside0.mk hr2
  clear hr2 w0 w1 w2
  go_enter Try.func6, Try.ntmps6
  go_wp2_with fail
  refine (place_calls _ _ _ (by omega) (by omega)).mono ?_
  rintro e w3 ⟨rfl, hg⟩
  have hb3 := (Below.refl w.heap.size w).grown hg (Nat.le_refl _) (fun j hj => by cases hj)
  clear hg
  go_wp2_with fail
  refine (place_calls _ _ _ (by omega) (by omega)).mono ?_
  rintro e w4 ⟨rfl, hg⟩
  have hb4 := hb3.grown hg hb3.size (fun j hj => by cases hj)
  clear hg hb3
  have x0 := Int.emod_nonneg a0 (show (588 : Int) ≠ 0 by omega)
  have x1 := Int.emod_lt_of_pos a0 (show (0 : Int) < 588 by omega)
  have y0 := Int.emod_nonneg a1 (show (588 : Int) ≠ 0 by omega)
  have y1 := Int.emod_lt_of_pos a1 (show (0 : Int) < 588 by omega)
  generalize a0 % 588 = x at *
  generalize a1 % 588 = y at *
  have HX := Aside0.mk (way_f x x0 x1 1 (Nat.le_refl _))
  have HY := Aside0.mk (way_f y y0 y1 1 (Nat.le_refl _))
  have HZ : Aside0 (span_Way.f 1 (588 + x) = some (0, 0, 0, false)) := ⟨way_no (588 + x) (by omega) 1 (Nat.le_refl _)⟩
  generalize kindF x = a at *
  generalize kidF x = b at *
  generalize atF x = c at *
  generalize kindF y = d at *
  generalize kidF y = e at *
  generalize atF y = f at *
  go_wp2_with fail
  refine (span_Way.calls 1 x a b c true _ HX.out).mono ?_
  rintro e_ w5 ⟨rfl, hb⟩
  have hb5 := below_step hb4 hb
  clear hb hb4 HX
  go_wp2_with fail
  refine (span_Way.calls 1 y d e f true _ HY.out).mono ?_
  rintro e_ w6 ⟨rfl, hb⟩
  have hb6 := below_step hb5 hb
  clear hb hb5 HY
  go_wp2_with fail
  refine (span_Way.calls 1 (588 + x) 0 0 0 false _ HZ.out).mono ?_
  rintro e_ w7 ⟨rfl, hb⟩
  have hb7 := below_step hb6 hb
  clear hb hb6 HZ
  have HB := hb7
  clear hb7
  obtain ⟨rfl, k3, k4, k1, k2⟩ := hK.out
  obtain ⟨q0, rfl, rfl, q1⟩ := hU.out
  clear hK hU
  go_wp2_with fail
  clear q0
  go_loopw [21, 22] (fun v i wr => ∃ k : Nat, k ≤ 64 ∧ i = .int .i64 k ∧ Aside0 (Kd.R (Kd.int .i64) 3 wr w.heap.size (fun _ => True) v (buildM l2 k)) ∧ Below w.heap.size w wr)
    (fun _ i _ => 64 - (intOf i).toNat)
  case atStart => exact ⟨0, Nat.zero_le _, rfl, ⟨Kd.R_nil _ _ _ _ _⟩, HB⟩
  case round =>
    clear HB
    obtain ⟨k, hk, rfl, HO, HB⟩ := hrel
    by_cases hlt : k < 64
    · have hlen := build_len l2 k
      have hst := build_succ l2 k
      have HST := Aside0.mk hst
      have HLN := Aside0.mk hlen
      clear hst hlen
      by_cases hl : k < l2.length
      · rw [if_pos hl] at HST
        obtain ⟨ad, ead, hx0⟩ := Kd.at_int HR2.out (k : Int) (by omega) (by omega)
        cases ead
        replace hx0 := (HB.cell (World.block_lt_of_cell? w _ hx0)).trans hx0
        simp only [Int.toNat_natCast] at hx0
        have hrd : rd l2 (k : Int) = l2.getD k 0 := by unfold rd; rw [Int.toNat_natCast]
        rw [hrd] at hx0
        clear hrd
        generalize l2.getD k 0 = z at *
        go_wp2_with fail
        refine (place_calls _ _ _ (by omega) (by omega)).mono ?_
        rintro e_ w8 ⟨rfl, hg⟩
        have HB8 := HB.grown hg HB.size (fun j hj => by cases hj)
        have hdn := Below.size HB
        have HO8 : Kd.R (Kd.int .i64) 3 w8 w.heap.size (fun _ => True) _ (buildM l2 k) := Kd.R_grown HO.out hg (fun j hj => by first | (cases hj; done) | exact fun h2 => by cases h2)
        have q1' := Int.emod_nonneg z (show (65536 : Int) ≠ 0 by omega)
        have q2' := Int.emod_lt_of_pos z (show (0 : Int) < 65536 by omega)
        generalize z % 65536 = zz at *
        clear hg HB HO hx0
        go_wp2_with (first
          | ((with_reducible refine gate_builtin (b := .append) (xs := #[.tmp 132, .tmp 134]) rfl ?_); at_builtin; refine Kd.R_append (Kd.int .i64) (w0 := w) w.heap.size rfl (.tmp 132) (.tmp 134) 22 3 (.int .i64 0) 8 rfl Try.underlying22 info3 rfl (by decide) (by omega) _ (buildM l2 k) zz [.int .i64 zz] (fun _ => True) (fun _ => False) rfl rfl ?aP (fun _ hk => hk.elim) ?aF HO8 HB8 ?aS ?aL ?_; (case aP => exact rfl); (case aF => intro j hj; trivial); (case aS => exact HB8.size); (case aL => rw [HLN.out]; omega); intro v111 w14 ho hb hg hat)
          | fail)
        go_roundw
        case rel => exact ⟨k + 1, by omega, by go_num, ⟨by rw [HST.out]; exact ho⟩, hb⟩
        case measure => simp only [intOf]; (try rw [w64 (by omega) (by omega)]); omega
      · rw [if_neg hl] at HST
        have HO8 := HO.out
        clear HO
        go_wp2_with (first
          | ((with_reducible refine gate_builtin (b := .append) (xs := #[.tmp 132, .tmp 134]) rfl ?_); at_builtin; refine Kd.R_append (Kd.int .i64) (w0 := w) w.heap.size rfl (.tmp 132) (.tmp 134) 22 3 (.int .i64 0) 8 rfl Try.underlying22 info3 rfl (by decide) (by omega) _ (buildM l2 k) (k : Int) [.int .i64 k] (fun _ => True) (fun _ => False) rfl rfl ?aP (fun _ hk => hk.elim) ?aF HO8 HB ?aS ?aL ?_; (case aP => exact rfl); (case aF => intro j hj; trivial); (case aS => exact HB.size); (case aL => rw [HLN.out]; omega); intro v111 w14 ho hb hg hat)
          | fail)
        go_roundw
        case rel => exact ⟨k + 1, by omega, by go_num, ⟨by rw [HST.out]; exact ho⟩, hb⟩
        case measure => simp only [intOf]; (try rw [w64 (by omega) (by omega)]); omega
    · obtain rfl : k = 64 := by omega
      have hml := build_len l2 64
      obtain ⟨K1, h1⟩ := pointers (buildM l2 64) hml (build_bd l2 64 (Nat.le_refl _))
      obtain ⟨K2, h2⟩ := same_self (buildM l2 64) (by rw [hml]; omega)
      obtain ⟨K3, h3⟩ := s_awake
      have H1 := Aside0.mk (h1 K1 (Nat.le_refl _))
      have H2 := Aside0.mk (h2 K2 (Nat.le_refl _))
      have H3 := Aside0.mk (h3 K3 (Nat.le_refl _))
      have HML := Aside0.mk hml
      clear h1 h2 h3 hml
      generalize buildM l2 64 = M at *
      have HO8 := HO.out
      obtain ⟨Am, cm, rfl⟩ := Kd.R_slice HO8
      obtain ⟨_, hcm, hC⟩ := Kd.R_reads' HO8
      have HC := Aside0.mk hC
      clear HO8 hC HO
      rw [show ((64 : Nat) : Int) = 64 from rfl]
      go_wp2_with fail
      refine (span_Bytes.calls Am cm M _ _ HC.out hcm rfl).mono ?_
      rintro e_ w8 ⟨rfl, hb⟩
      have HC8 := Aside0.mk (Kd.C_below HC.out hb)
      have HB8 := below_step HB hb
      clear hb HB HC
      go_wp2_with fail
      refine (span_Pointers.calls K1 _ M _ H1.out).mono ?_
      rintro e_ w9 ⟨v, rfl, HO, hb⟩
      have HC9 := Aside0.mk (Kd.C_below HC8.out hb)
      have HB9 := below_step HB8 hb
      obtain ⟨Ap, cp, rfl⟩ := Kd.R_slice HO
      obtain ⟨_, hcp, hC⟩ := Kd.R_reads' HO
      have HCp := Aside0.mk hC
      clear hb HB8 HC8 HO hC
      go_wp2_with fail
      refine (beguinagelaw00_SameInts.calls K2 Ap cp M Am cm M true _ HCp.out hcp HC9.out hcm H2.out).mono ?_
      rintro e_ w10 ⟨rfl, nd, hd⟩
      have HB10 : Below w.heap.size w w10 := by first | (rw [hd]; exact pw_below_drewN HB9 nd) | (rw [← hd]; exact pw_below_drewN HB9 nd)
      clear hd HB9 HCp HC9
      go_wp2_with fail
      refine (beguinagelaw10_awake.calls K3 true _ H3.out).mono ?_
      rintro e_ w11 ⟨rfl, hb⟩
      have HB11 := below_step HB10 hb
      go_wp2_with fail
      go_ret
      exact ⟨rfl, HB11⟩

end Go.Proofs.Ytbdghlneiblkcaa.Pure
