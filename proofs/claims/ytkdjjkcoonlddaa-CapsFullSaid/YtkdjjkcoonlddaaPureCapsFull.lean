/- CapsFull answers true for every number and every list: as many as may be open, and one more; closed ones make room; no handle comes twice. Conditions: none. -/
import Derived.Test.YtkdjjkcoonlddaaCapsF
import Derived.Test.YtkdjjkcoonlddaaPPoolx0
namespace Go.Proofs.Ytkdjjkcoonlddaa.Pure
open Go.RowKit Go.Maps Go.Proofs.YtkdjjkcoonlddaaW.PrintWords Go.Proofs.YtkdjjkcoonlddaaW.PrintLast Go.Proofs.YtkdjjkcoonlddaaW.PrintMore
open Go.Proofs.Ytkdjjkcoonlddaa.Aid Go.Proofs.Ytkdjjkcoonlddaa.Caps
open Go.Proofs.Ytkdjjkcoonlddaa.PPool (info3)
set_option linter.unusedVariables false
set_option linter.unusedSimpArgs false

theorem front345 : frontF 3 4 5 = 13511073760346112 := by decide
set_option maxHeartbeats 16000000 in
set_option maxRecDepth 100000 in
theorem CapsFull_walk (a0 : Int) (A1 : Option Addr) (c1 : Nat) (l1 : List Int) (w : World) (hr1 : Kd.C (Kd.int .i64) w A1 l1.length l1) (hc1 : l1.length ≤ c1) (w0 : (Lit.int .i64 a0).wf = true) (w1 : l1.length ≤ maxLen ∧ ∀ x_ ∈ l1, (Lit.int .i64 x_).wf = true) :
    Calls Try.prog 7 #[.int .i64 a0, .slice A1 l1.length c1] w fun e w' => e = .returned (.bool true) ∧ Below w.heap.size w w' := by
  have hmax : l1.length ≤ 9223372036854775807 := Kd.C_max hr1
  have HR1 := Aside0.mk hr1
  clear hr1 w1 w0
  have F1 := Aside0.mk front345
  go_enter Try.func7, Try.ntmps7
  go_wp2_with fail
  refine (new_calls 3 4 5 _ (by decide) (by decide) (by decide) (by decide) (by decide) (by decide)).mono ?_
  rintro e w1 ⟨rfl, hT, hb⟩
  rw [F1.out] at hT
  have HT := Aside0.mk hT
  clear hT
  obtain ⟨g, hg⟩ : ∃ g, w.heap.size + 1 = g := ⟨_, rfl⟩
  obtain ⟨b, hbb⟩ : ∃ b, w.heap.size = b := ⟨_, rfl⟩
  have hgl : w.heap.size ≤ g := by omega
  have hbl : w.heap.size ≤ b := by omega
  rw [hg, hbb] at HT
  rw [hg]
  clear hg hbb
  obtain ⟨F, hF⟩ : ∃ F : Int, F = 13511073760346112 := ⟨_, rfl⟩
  rw [← hF] at HT
  have HF := Aside0.mk hF
  have fp0 : 0 ≤ F := by omega
  have fp1 : F ≤ 13511073760346112 := by omega
  clear hF
  have HOUS : Aside0 (∀ k : Int, 1 ≤ k → k ≤ 20000 → houseF (F + k) = 3) := ⟨fun k k0 k1 => by
    rw [HF.out]
    have e : (13511073760346112 + k) / 4503599627370496 = 3 := by omega
    unfold houseF
    rw [e]; rfl⟩
  go_wp2_with fail
  go_loopw [6, 7] (fun v i wr => ∃ j : Nat, i = .int .i64 j ∧ j ≤ 64 ∧ Aside0 (Kd.R (Kd.int .i64) 3 wr w.heap.size (fun m => m ≠ g ∧ m ≠ b) v (hsL F j)) ∧ Aside0 (Tab wr g b F j (fsL F j)) ∧ Below w.heap.size w wr)
    (fun _ i _ => 64 - (intOf i).toNat)
  case atStart => exact ⟨0, rfl, by omega, ⟨Kd.R_nil _ _ _ _ _⟩, HT, hb⟩
  case round =>
    clear HT hb
    obtain ⟨j, rfl, hj, HO, HT, HB⟩ := hrel
    have hbs := HT.out.blt
    have hgs := HT.out.glt
    by_cases hlt : j < 64
    · have hl1 : (fsL F j).length < 64 := by rw [fsL_len]; omega
      have HFr := Aside0.mk (fsL_fresh F j)
      have HS := Aside0.mk (fsL_succ F j)
      have HS2 := Aside0.mk (hsL_succ F j)
      have HL := Aside0.mk (hsL_len F j)
      obtain ⟨Ao, co, rfl⟩ := Kd.R_slice HO.out
      have HH := Aside0.mk (HOUS.out ((j : Int) + 1) (by omega) (by omega))
      have m1 : 1 ≤ 1 + (j : Int) % 255 := by omega
      have m2 : 1 + (j : Int) % 255 ≤ 255 := by omega
      have m3 : 1 ≤ 1 + (j : Int) % 7 := by omega
      have m4 : 1 + (j : Int) % 7 ≤ 7 := by omega
      have hwf : (Lit.int .i64 (F + ((j : Int) + 1))).wf = true := bd_wf (by omega) (by omega)
      go_wp2_with fail
      refine (open_yes g b F (j : Int) (fsL F j) _ _ _ HT.out (by omega) (by omega) (by omega) (by omega) hl1 (by omega) (by omega) fp0 (by omega) HFr.out).mono ?_
      rintro e w6 ⟨rfl, hT, hf⟩
      rw [← HS.out] at hT
      have HB6 := hf.below HB hgl hbl HB.size
      have HO6 : Aside0 (Kd.R (Kd.int .i64) 3 w6 w.heap.size (fun m => m ≠ g ∧ m ≠ b) _ (hsL F j)) := ⟨Kd.R_step HO.out (fun k hk hk2 => hf.block k hk2 hk.1 hk.2)⟩
      have HT6 := Aside0.mk hT
      clear hT hf HB HT HO
      have hg6 := HT6.out.glt
      have hb6 := HT6.out.blt
      by_cases hj0 : j = 0
      · have hj1 : ¬ 0 < j := by omega
        clear hj0
        go_wp2_with fail
        refine (house_calls (F + ((j : Int) + 1)) _ hwf).mono ?_
        rintro e w7 ⟨rfl, rfl⟩
        rw [HH.out]
        go_wp2_with (first
          | ((with_reducible refine gate_builtin (b := .append) (xs := #[.tmp 58, .tmp 60]) rfl ?_); at_builtin; refine Kd.R_append (Kd.int .i64) (w0 := w) w.heap.size rfl (.tmp 58) (.tmp 60) 26 3 (.int .i64 0) 8 rfl Try.underlying26 info3 rfl (by decide) (by omega) _ (hsL F j) (F + ((j : Int) + 1)) [.int .i64 (F + ((j : Int) + 1))] (fun m => m ≠ g ∧ m ≠ b) (fun _ => False) rfl rfl ?aP (fun _ hk => hk.elim) ?aF HO6.out HB6 ?aS ?aL ?_; (case aP => exact rfl); (case aF => intro j hj; constructor <;> omega); (case aS => exact HB6.size); (case aL => rw [HL.out]; omega); intro v111 w14 ho hb' hg' hat)
          | fail)
        go_roundw
        case rel => exact ⟨j + 1, by go_num, by omega, ⟨by rw [HS2.out]; exact ho⟩, ⟨by
          have h := HT6.out.kept (hg'.block g hg6 (fun e => ((Kd.R_step HO6.out (fun _ _ _ => rfl)).1 g e.symm).1 rfl)) (hg'.block b hb6 (fun e => ((Kd.R_step HO6.out (fun _ _ _ => rfl)).1 b e.symm).2 rfl))
          rwa [show (j : Int) + 1 = ((j + 1 : Nat) : Int) by omega] at h⟩, hb'⟩
        case measure => simp only [intOf]; (try rw [w64 (by omega) (by omega)]); omega
      · have hj1 : 0 < j := by omega
        obtain ⟨ad, ead, hx0⟩ := Kd.at_int (Kd.R_reads' HO6.out).2.2 ((j : Int) - 1) (by omega) (by rw [HL.out]; omega)
        cases ead
        rw [show ((j : Int) - 1).toNat = j - 1 by omega] at hx0
        have hrd : rd (hsL F j) ((j : Int) - 1) = F + (j : Int) := by
          unfold rd
          rw [show ((j : Int) - 1).toNat = j - 1 by omega]
          have h := hsL_at F j (j - 1) (by omega)
          rw [h]; omega
        rw [hrd] at hx0
        clear hrd hj0
        have hbd : (j : Int) - 1 < ((hsL F j).length : Int) := by rw [HL.out]; omega
        have hbd0 : (0 : Int) ≤ (j : Int) - 1 := by omega
        have hbd1 : (1 : Int) ≤ (j : Int) := by omega
        go_wp2_with fail
        refine (house_calls (F + ((j : Int) + 1)) _ hwf).mono ?_
        rintro e w7 ⟨rfl, rfl⟩
        rw [HH.out]
        go_wp2_with (first
          | ((with_reducible refine gate_builtin (b := .append) (xs := #[.tmp 58, .tmp 60]) rfl ?_); at_builtin; refine Kd.R_append (Kd.int .i64) (w0 := w) w.heap.size rfl (.tmp 58) (.tmp 60) 26 3 (.int .i64 0) 8 rfl Try.underlying26 info3 rfl (by decide) (by omega) _ (hsL F j) (F + ((j : Int) + 1)) [.int .i64 (F + ((j : Int) + 1))] (fun m => m ≠ g ∧ m ≠ b) (fun _ => False) rfl rfl ?aP (fun _ hk => hk.elim) ?aF HO6.out HB6 ?aS ?aL ?_; (case aP => exact rfl); (case aF => intro j hj; constructor <;> omega); (case aS => exact HB6.size); (case aL => rw [HL.out]; omega); intro v111 w14 ho hb' hg' hat)
          | fail)
        go_roundw
        case rel => exact ⟨j + 1, by go_num, by omega, ⟨by rw [HS2.out]; exact ho⟩, ⟨by
          have h := HT6.out.kept (hg'.block g hg6 (fun e => ((Kd.R_step HO6.out (fun _ _ _ => rfl)).1 g e.symm).1 rfl)) (hg'.block b hb6 (fun e => ((Kd.R_step HO6.out (fun _ _ _ => rfl)).1 b e.symm).2 rfl))
          rwa [show (j : Int) + 1 = ((j + 1 : Nat) : Int) by omega] at h⟩, hb'⟩
        case measure => simp only [intOf]; (try rw [w64 (by omega) (by omega)]); omega
    · obtain rfl : j = 64 := by omega
      have HFull := Aside0.mk (full_start F)
      have HL := Aside0.mk (hsL_len F 64)
      have hlast := hsL_at F 64 63 (by omega)
      have HSl := Aside0.mk (fsL_len F 64)
      have HLast : Aside0 ((hsL F 64).getD 63 0 = F + ((64 : Nat) : Int)) := ⟨by rw [hlast]; omega⟩
      clear hlast
      generalize hsL F 64 = ls at *
      generalize fsL F 64 = S at *
      obtain ⟨go, co, eo, gb, gl, _⟩ := Kd.R_form HO.out (by rw [HL.out]; omega)
      subst eo
      have hgo := HO.out.1 go (by simp [Value.ownBlock])
      rw [HL.out] at HO
      rw [HL.out, show ((64 : Nat) : Int) = 64 from rfl]
      rw [show ((64 : Nat) : Int) = 64 from rfl] at HT HLast
      clear gl
      go_wp2_with fail
      refine (open_full g b F 64 S 1 1 _ HT.out (by decide) (by decide) (by decide) (by decide) (Or.inl (by rw [HSl.out]; omega))).mono ?_
      rintro e w6 ⟨rfl, rfl⟩
      go_wp2_with fail
      refine (len_calls g b F 64 S _ HT.out).mono ?_
      rintro e w6 ⟨rfl, rfl⟩
      rw [HSl.out, show ((64 : Nat) : Int) = 64 from rfl]
      obtain ⟨hx0, _⟩ := Kd.R_celln 0 HO.out (63 : Int) (by omega) (by omega)
      have hrd : rdOf (0 : Int) ls (63 : Int) = F + 64 := HLast.out
      rw [hrd, show (63 : Int).toNat = 63 from rfl] at hx0
      clear hrd
      go_wp2_with fail
      clear hx0
      go_loopw [12, 13] (fun v i wr' => ∃ (q : Nat) (ls S : _), i = .int .i64 q ∧ q ≤ l1.length ∧ q ≤ 50 ∧ v = .int .i64 (F + ((64 + q : Nat) : Int)) ∧ Aside0 (Kd.R (Kd.int .i64) 3 wr' w.heap.size (fun m => m ≠ g ∧ m ≠ b) (.slice (some ⟨go, 0, none⟩) 64 co) ls) ∧ Aside0 (Tab wr' g b F ((64 + q : Nat) : Int) S) ∧ Aside0 (Full F (64 + q) ls S) ∧ Below w.heap.size w wr')
        (fun _ i _ => 50 - (intOf i).toNat)
      case atStart => exact ⟨0, ls, S, rfl, by omega, by omega, rfl, HO, HT, HFull, HB⟩
      case round =>
        clear HO HT HFull HB HSl HLast HL
        clear ls S
        obtain ⟨q, ls, S, rfl, hq, hq50, rfl, HO, HT, HFull, HB⟩ := hrel
        have hbs := HT.out.blt
        have hgs := HT.out.glt
        have hLen := HFull.out.len
        have hSl := HFull.out.slen
        by_cases hgo' : q < l1.length ∧ q < 50
        · obtain ⟨hq1, hq2⟩ := hgo'
          obtain ⟨ad, ead, hx0⟩ := Kd.at_int HR1.out (q : Int) (by omega) (by omega)
          cases ead
          replace hx0 := (HB.cell (World.block_lt_of_cell? w _ hx0)).trans hx0
          simp only [Int.toNat_natCast] at hx0
          generalize rd l1 (q : Int) = z at hx0
          have HLen := Aside0.mk hLen
          have HSl := Aside0.mk hSl
          clear hLen hSl
          go_wp2_with fail
          refine (place_calls _ _ _ (by omega) (by omega)).mono ?_
          rintro e w6 ⟨rfl, hb6⟩
          have HO6 : Aside0 (Kd.R (Kd.int .i64) 3 w6 w.heap.size (fun m => m ≠ g ∧ m ≠ b) (.slice (some ⟨go, 0, none⟩) 64 co) ls) := ⟨Kd.R_below HO.out hb6⟩
          have HT6 := Aside0.mk (HT.out.below hb6)
          have HB6 := below_step HB hb6
          have hgo6 : go < w6.heap.size := by
            obtain ⟨g', c', e', _, h', _⟩ := Kd.R_form HO6.out (by rw [HLen.out]; omega)
            simp only [Value.slice.injEq, Option.some.injEq, Addr.mk.injEq] at e'
            omega
          clear hb6 HB HT HO hx0
          have k0 := Int.emod_nonneg z (show (64 : Int) ≠ 0 by omega)
          have k1 := Int.emod_lt_of_pos z (show (0 : Int) < 64 by omega)
          generalize z % 64 = kk at *
          obtain ⟨k, rfl⟩ := Int.eq_ofNat_of_zero_le k0
          have hkl : k < ls.length := by rw [HLen.out]; omega
          have HX := Aside0.mk (HFull.out.has ls[k] (List.getElem_mem hkl))
          have hbx := HFull.out.bd ls[k] (List.getElem_mem hkl)
          have HFr := Aside0.mk (full_fresh HFull.out ls[k])
          have hx0 : w6.cell? ⟨go, k, none⟩ = some (.int .i64 ls[k]) := by
            obtain ⟨h1, _⟩ := Kd.R_celln 0 HO6.out (k : Int) (by omega) (by omega)
            rw [Int.toNat_natCast] at h1
            rw [h1]
            show some (Value.int .i64 (ls.getD (k : Int).toNat 0)) = _
            rw [Int.toNat_natCast, List.getD_eq_getElem?_getD, List.getElem?_eq_getElem hkl]; rfl
          have HNd : Aside0 ((S.map (·.1)).Nodup) := ⟨by obtain ⟨D, _, r⟩ := HT6.out.rep; exact r.nodup⟩
          have HStep := fun (n : Int) => full_step HFull.out HNd.out k hkl n 1
          have HStep := Aside0.mk HStep
          have HWl : Aside0 ((without S ls[k]).length = 63) := ⟨by have h1 := without_len ls[k] HNd.out HX.out; have h2 := HSl.out; omega⟩
          have HLk : Aside0 (lookH (without S ls[k]) ls[k] = none) := ⟨by rw [look_without, if_pos rfl]⟩
          generalize ls[k] = x at *
          have hwx : (Lit.int .i64 x).wf = true := bd_wf (by omega) (by omega)
          go_wp2_with fail
          refine (close_yes g b F _ S x _ HT6.out hwx HX.out).mono ?_
          rintro e w7 ⟨rfl, hT, hf⟩
          have HB7 := hf.below HB6 hgl hbl HB6.size
          have HO7 : Aside0 (Kd.R (Kd.int .i64) 3 w7 w.heap.size (fun m => m ≠ g ∧ m ≠ b) (.slice (some ⟨go, 0, none⟩) 64 co) ls) := ⟨Kd.R_step HO6.out (fun k hk hk2 => hf.block k hk2 hk.1 hk.2)⟩
          have HT7 := Aside0.mk hT
          have hx7 : w7.cell? ⟨go, k, none⟩ = some (.int .i64 x) := (World.cell?_of_block (hf.block go hgo6 hgo.1 hgo.2)).trans hx0
          have hgo7 : go < w7.heap.size := Nat.lt_of_lt_of_le hgo6 hf.size
          clear hT hf HB6 HO6 HT6 hx0 hgo6
          go_wp2_with fail
          refine (get_calls g b F _ (without S x) x _ HT7.out hwx).mono ?_
          rintro e w8 ⟨rfl, hb8⟩
          have HO8 : Aside0 (Kd.R (Kd.int .i64) 3 w8 w.heap.size (fun m => m ≠ g ∧ m ≠ b) (.slice (some ⟨go, 0, none⟩) 64 co) ls) := ⟨Kd.R_below HO7.out hb8⟩
          have HT8 := Aside0.mk (HT7.out.below hb8)
          have HB8 := below_step HB7 hb8
          have hgo8 : go < w8.heap.size := Nat.lt_of_lt_of_le hgo7 hb8.size
          rw [HLk.out]
          dsimp only
          clear hb8 HB7 HO7 HT7 hx7 hgo7
          go_wp2_with fail
          refine (place_calls _ _ _ (by omega) (by omega)).mono ?_
          rintro e w9 ⟨rfl, hb9⟩
          have HO9 : Aside0 (Kd.R (Kd.int .i64) 3 w9 w.heap.size (fun m => m ≠ g ∧ m ≠ b) (.slice (some ⟨go, 0, none⟩) 64 co) ls) := ⟨Kd.R_below HO8.out hb9⟩
          have HT9 := Aside0.mk (HT8.out.below hb9)
          have HB9 := below_step HB8 hb9
          have hgo9 : go < w9.heap.size := Nat.lt_of_lt_of_le hgo8 hb9.size
          clear hb9 HB8 HO8 HT8 hgo8
          have n0 := Int.emod_nonneg a0 (show (255 : Int) ≠ 0 by omega)
          have n1 := Int.emod_lt_of_pos a0 (show (0 : Int) < 255 by omega)
          obtain ⟨nn, hnn⟩ : ∃ nn, a0 % 255 = nn := ⟨_, rfl⟩
          rw [hnn] at n0 n1 ⊢
          clear hnn
          go_wp2_with fail
          refine (open_yes g b F _ (without S x) (1 + nn) 1 _ HT9.out (by omega) (by omega) (by decide) (by decide) (by rw [HWl.out]; omega) (by omega) (by omega) fp0 (by omega) HFr.out).mono ?_
          rintro e w10 ⟨rfl, hT, hf⟩
          have HB10 := hf.below HB9 hgl hbl HB9.size
          have HO10 : Aside0 (Kd.R (Kd.int .i64) 3 w10 w.heap.size (fun m => m ≠ g ∧ m ≠ b) (.slice (some ⟨go, 0, none⟩) 64 co) ls) := ⟨Kd.R_step HO9.out (fun k hk hk2 => hf.block k hk2 hk.1 hk.2)⟩
          have HT10 := Aside0.mk hT
          clear hT hf HB9 HO9 HT9 hgo9
          obtain ⟨hx10, hf10⟩ := Kd.R_celln 0 HO10.out (k : Int) (by omega) (by omega)
          obtain ⟨hP1, hP2⟩ := Kd.R_putg HO10.out (k : Int) (F + (((64 + q : Nat) : Int) + 1))
          rw [Int.toNat_natCast] at hx10 hf10 hP1 hP2
          have HP1 := Aside0.mk hP1
          have HP2 := Aside0.mk hP2
          clear hP1 hP2
          generalize rdOf (0 : Int) ls (k : Int) = xo at hx10
          go_wp2_with fail
          go_roundw
          case rel => exact ⟨q + 1, ls.set k (F + (((64 + q : Nat) : Int) + 1)), _, by go_num, by omega, by omega, by go_num, HP1, ⟨by
            have h := HT10.out.kept (HP2.out.block g HT10.out.glt (by simp; omega)) (HP2.out.block b HT10.out.blt (by simp; omega))
            rw [show ((64 + q : Nat) : Int) + 1 = ((64 + (q + 1) : Nat) : Int) by omega] at h
            exact h⟩, ⟨by
            have h := HStep.out (1 + nn)
            rw [show ((64 + q : Nat) : Int) + 1 = ((64 + (q + 1) : Nat) : Int) by omega] at h
            exact h⟩, HB10.grown HP2.out HB10.size (fun j hj => by cases hj; exact gb)⟩
          case measure => simp only [intOf]; (try rw [w64 (by omega) (by omega)]); omega
        · have hdec : (¬ q < l1.length) ∨ (q < l1.length ∧ ¬ q < 50) := by
            by_cases h : q < l1.length
            · exact Or.inr ⟨h, fun h2 => hgo' ⟨h, h2⟩⟩
            · exact Or.inl h
          have HSl := Aside0.mk hSl
          clear hgo' hSl hLen
          rcases hdec with d3 | ⟨d3, d4⟩ <;> (
            go_wp2_with fail
            refine (len_calls g b F _ S _ HT.out).mono ?_
            rintro e w6 ⟨rfl, rfl⟩
            rw [HSl.out, show ((64 : Nat) : Int) = 64 from rfl]
            go_wp2_with fail
            refine (awake_calls _).mono ?_
            rintro e w7 ⟨rfl, hb7⟩
            have HB7 := below_step HB hb7
            go_wp2_with fail
            go_ret
            exact ⟨rfl, HB7⟩)
end Go.Proofs.Ytkdjjkcoonlddaa.Pure
