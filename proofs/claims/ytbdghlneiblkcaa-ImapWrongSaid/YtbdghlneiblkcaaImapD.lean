/- imap.Map: the contract of Take: a part from its block. Conditions: the text is no longer than 2^62 bytes. -/
import Derived.Test.YtbdghlneiblkcaaImapC
namespace Go.Proofs.Ytbdghlneiblkcaa.Imap
open Go.RowKit Go.Proofs.YtbdghlneiblkcaaW.PrintWords Go.Proofs.YtbdghlneiblkcaaW.PrintLast Go.Proofs.YtbdghlneiblkcaaW.PrintMore
open Go.Proofs.Ytbdghlneiblkcaa.Aid Go.Proofs.Ytbdghlneiblkcaa.PSpan
set_option linter.unusedVariables false
set_option linter.unusedSimpArgs false

theorem vals_one (L : List Int) : (vals L).all (·.oneCell') = true := by
  rw [Array.all_eq_true_iff_forall_mem]
  intro x hx
  unfold vals at hx
  simp only [List.mem_toArray, List.mem_map] at hx
  obtain ⟨y, _, rfl⟩ := hx
  rfl
theorem Mp.setRow {w : World} {g : Nat} {L M : List Int} (h : Mp w g L) (hM : M.length = 256) : Mp (w.setRow g (vals M)) g M := ⟨setRow_heap w g _ _ 52 _ h.1, hM⟩
theorem grown_setRow (w : World) (g : Nat) (cs : Array Value) : w.grownBy (w.setRow g cs) (some g) := ⟨rfl, rfl, rfl, by simp, fun i _ hi => setRow_other w g i cs (fun e => hi (by rw [e]))⟩

theorem quiet_load_row {P : Program} {ops : Array Oper} {o : Oper} {a : Act} {w1 : World} {K : Act → Prop} (hgd : o.guard = none) (ty : TypeId) (x : Operand) (ho : o.op = .load ty x)
    (g : Nat) (hx : a.eval x = .pointer (some ⟨g, 0, none⟩)) (t : TypeId) (cs : Array Value) (fr : Nat × Nat) (d : TypeDesc) (hg : w1.heap[g]? = some (.cells cs t fr))
    (hu : P.underlying ty = some d) (hd : (match d with | .struct _ | .array _ _ => true | _ => false) = true) (hi : (P.info? ty).map (·.size) = some cs.size)
    (h : K (a.put o.dst (.agg cs))) : if Region.wanted o (yielded ops a.tmps) then o.quiet P a (fun w' => ∃ n, w' = w1.drewN n) K else K (a.put o.dst undef) := by
  have hw : Region.wanted o (yielded ops a.tmps) = true := by simp [Region.wanted, hgd]
  rw [if_pos hw]
  refine ⟨.agg cs, fun w ⟨n, hn⟩ => ?_, h⟩
  subst hn
  unfold Oper.quietAt execOp
  simp only [ho, hx, Instr.loadAt, Instr.sureAddr, Sem.run_bind, Sem.run_pure, Result.andThen_ok, run_loadVar_row (w1.drewN n) g t ty cs fr d hg hu hd hi]
  exact ⟨rfl, rfl⟩
set_option maxHeartbeats 4000000 in
set_option maxRecDepth 100000 in
theorem take_loop (g : Nat) (L : List Int) (p : Nat) (s : ByteArray) (w : World) (h : Mp w g L) (hp : p < 4) (hs : (s.size : Int) ≤ 4611686018427387904) :
    Calls Try.prog 36 #[.pointer (some ⟨g, 0, none⟩), .int .i64 p, .string s] w fun e w' =>
      (takes L p s → e = .returned (.bool true) ∧ Mp w' g (newTo L p s 64) ∧ w.grownBy w' (some g)) ∧ (¬ takes L p s → e = .returned (.bool false) ∧ Below w.heap.size w w') := by
  have HM := Aside0.mk h
  have hz := (zero_of_info info52).1
  have hn52 := (zero_of_info info52).2
  have hVl : (vals L).size = 256 := by rw [vals_size, h.2]
  have hZl : (vals Z256).size = 256 := by rw [vals_size, Z256_len]
  have hMa0 : Mp (w.alloc (.cells (vals L) 52)) w.heap.size (newTo L p s 0) := by rw [newTo_zero L p s h.2]; exact ⟨heap_alloc_last _ _, h.2⟩
  have HMa := Aside0.mk hMa0
  have HB0 : Below w.heap.size w (w.alloc (.cells (vals L) 52)) := (Below.refl _ _).alloc (Nat.le_refl _) _
  have hall := vals_one L
  have hst := run_storeCells_new (P := Try.prog) w 52 (vals Z256) (vals L) (by rw [hVl]; exact hn52) (by rw [hZl, hVl]) hall
  have hok0 : okTo p s 0 := fun i hi => by omega
  have HK := Aside0.mk hok0
  clear h hMa0 hok0
  have HMw : Aside0 (w.heap[g]? = some (.cells (vals L) 52 (0, 0))) := ⟨HM.out.1⟩
  generalize vals Z256 = VZ at *
  generalize hV : vals L = V at *
  have HV := Aside0.mk hV
  clear hV
  go_enter Try.func36, Try.ntmps36
  go_wp2_with (first
    | (refine wpList_load_row rfl 52 _ rfl g rfl 52 V (0, 0) _ HMw.out Try.underlying52 rfl (by rw [hVl]; exact hn52) ?_)
    | go_in)
  clear hz hst hall
  go_loopw [21] (fun i wr => ∃ k : Nat, i = .int .i64 k ∧ k ≤ 64 ∧ Aside0 (okTo p s k) ∧ Aside0 (Mp wr w.heap.size (newTo L p s k)) ∧ Below w.heap.size w wr)
    (fun i _ => 64 - (intOf i).toNat)
  case atStart => exact ⟨0, rfl, by omega, HK, HMa, HB0⟩
  case round =>
    clear HK HMa HB0
    obtain ⟨k, rfl, hk, HK, HMa, HB⟩ := hrel
    by_cases hlt : k < 64
    · have d1 : decide ((k : Int) < 64) = true := decide_eq_true (by omega)
      obtain ⟨b, hb⟩ := get_gv s k hs
      have hvb := gv_bd s k
      have HG := Aside0.mk hb
      clear hb
      have hv : ∃ v, gv s k = v := ⟨_, rfl⟩
      have HKS : Aside0 (gv s k < 16384 → (64 * p + k = 0 → gv s k = 0) → okTo p s (k + 1)) := ⟨fun h1 h2 i hi => by
        by_cases e : i = k
        · subst e; exact ⟨h1, h2⟩
        · exact HK.out i (by omega)⟩
      have HKN : Aside0 (¬ (gv s k < 16384 ∧ (64 * p + k = 0 → gv s k = 0)) → ¬ takes L p s) := ⟨fun h1 h2 => h1 (h2.1 k hlt)⟩
      have HS : Aside0 (1 ≤ 64 * p + k → (newTo L p s k).set (64 * p + k) (gv s k) = newTo L p s (k + 1)) := ⟨fun h1 => newTo_set L p s k h1 (by omega)⟩
      have HS0 : Aside0 (64 * p + k = 0 → newTo L p s k = newTo L p s (k + 1)) := ⟨fun h1 => by
        obtain rfl : p = 0 := by omega
        obtain rfl : k = 0 := by omega
        exact (newTo_none L s).symm⟩
      generalize gv s k = v at *
      clear hv
      have e1 : Aside0 ((p : Int) * 64 + (k : Int) = ((64 * p + k : Nat) : Int)) := ⟨by omega⟩
      have hat : 64 * p + k < 256 := by omega
      have hwp : (p : Int) * 64 ≤ 192 := by omega
      go_wp2_with fail
      refine (bin_Get.calls s _ 2 v b _ HG.out).mono ?_
      rintro e w1 ⟨rfl, hb1⟩
      have HMa1 := Aside0.mk (HMa.out.below hb1 HMa.out.lt)
      have HB1 := below_step HB hb1
      clear hb1 HMa HB
      go_wp2_with fail
      rw [e1.out]
      generalize 64 * p + k = m at *
      by_cases hm : 1 ≤ m
      · by_cases hv : v < 16384
        · refine (set_in _ _ m v _ HMa1.out (by omega) (by omega) (by omega) (by omega)).mono ?_
          rintro e w2 ⟨rfl, hM, hg⟩
          rw [HS.out hm] at hM
          have HB2 := below_grown HB1 hg (Nat.le_refl _) HB1.size
          have HM2 := Aside0.mk hM
          clear hM hg HB1 HMa1
          have HK2 := Aside0.mk (HKS.out hv (by omega))
          clear HKS HKN HS HS0
          go_wp2_with fail
          go_roundw
          case rel => exact ⟨k + 1, by go_num, by omega, HK2, HM2, HB2⟩
          case measure => simp only [intOf]; (try rw [w64 (by omega) (by omega)]); omega
        · refine (set_out _ m v _ (by omega)).mono ?_
          rintro e w2 ⟨rfl, rfl⟩
          have hN := HKN.out (by omega)
          have HN := Aside0.mk hN
          clear HKS HKN HS HS0 hN
          have d2 : decide ((0 : Int) < (m : Int)) = true := decide_eq_true (by omega)
          go_wp2_with fail
          go_ret
          exact ⟨fun h => absurd h HN.out, fun _ => ⟨rfl, HB1⟩⟩
      · refine (set_out _ m v _ (by omega)).mono ?_
        rintro e w2 ⟨rfl, rfl⟩
        have hm2 : ¬ 0 < m := by omega
        by_cases hv : 0 < v
        · have hN := HKN.out (by omega)
          have HN := Aside0.mk hN
          clear HKS HKN HS HS0 hN
          go_wp2_with fail
          go_ret
          exact ⟨fun h => absurd h HN.out, fun _ => ⟨rfl, HB1⟩⟩
        · have HK2 := Aside0.mk (HKS.out (by omega) (by omega))
          have hMe := HMa1.out
          rw [HS0.out (by omega)] at hMe
          have HM2 := Aside0.mk hMe
          clear HKS HKN HS HS0 hMe
          go_wp2_with fail
          go_roundw
          case rel => exact ⟨k + 1, by go_num, by omega, HK2, HM2, HB1⟩
          case measure => simp only [intOf]; (try rw [w64 (by omega) (by omega)]); omega
    · obtain rfl : k = 64 := by omega
      have HN := Aside0.mk (newTo_len L p s 64)
      have HT : Aside0 (takes L p s ↔ putF (newTo L p s 64) p = s) := ⟨⟨fun h => h.2, fun h => ⟨HK.out, h⟩⟩⟩
      have HMg := Aside0.mk (HM.out.below HB HM.out.lt)
      go_wp2_with fail
      refine (put_in _ _ p _ HMa.out hp).mono ?_
      rintro e w1 ⟨rfl, hb1⟩
      have HMa1 := Aside0.mk (HMa.out.below hb1 HMa.out.lt)
      have HMg1 := Aside0.mk (HMg.out.below hb1 HMg.out.lt)
      have HB1 := below_step HB hb1
      clear hb1 HMa HB HMg
      generalize hNe : newTo L p s 64 = N at *
      have HNe := Aside0.mk hNe
      clear hNe
      generalize putF N p = y at *
      by_cases hy : y = s
      · have hT := HT.out.2 hy
        have HT2 := Aside0.mk hT
        subst hy
        clear hT HT
        go_wp2_with fail
        have hne : ∀ W : World, (Op.equalIn 10000 41 (.agg (vals N)) (.agg V)).run Try.prog W = .ok (N == L) W := fun W => by
          rw [← HV.out]
          exact run_eq_arr N L HN.out HM.out.2 9998 W
        have HMb : Aside0 (w1.heap[w.heap.size]? = some (.cells (vals N) 52 (0, 0))) := ⟨HMa1.out.1⟩
        have HMc : Aside0 (w1.heap[g]? = some (.cells V 52 (0, 0))) := ⟨by rw [← HV.out]; exact HMg1.out.1⟩
        have HS1 : Aside0 ((Try.prog.info? 41).map (·.size) = some (vals N).size) := ⟨by rw [vals_size, HN.out]; kernel_rfl⟩
        have HS2 : Aside0 ((Try.prog.info? 41).map (·.size) = some V.size) := ⟨by rw [hVl]; kernel_rfl⟩
        have HS3 : Aside0 ((Try.prog.info? 52).map (·.size) = some (vals N).size) := ⟨by rw [vals_size, HN.out]; kernel_rfl⟩
        have HS4 : Aside0 (V.size = (vals N).size) := ⟨by rw [vals_size, HN.out, hVl]⟩
        have HS5 : Aside0 ((vals N).all (·.oneCell') = true) := ⟨vals_one N⟩
        generalize hVN : vals N = VN at *
        have HVN := Aside0.mk hVN
        clear hVN
        cases hc : (N == L)
        · rw [hc] at hne
          refine wp_region_quiet_lit (by kernel_rfl) (by kernel_rfl) ?_
          quiet_step (fail)
          refine wpQuiet_step (fun K hK => ?_)
          refine quiet_load_row rfl 41 _ rfl w.heap.size rfl 52 VN (0, 0) _ HMb.out Try.underlying41 rfl HS1.out ?_
          refine hK _ ?_
          clear hK K
          quiet_step (fail)
          quiet_step (fail)
          quiet_step (fail)
          refine wpQuiet_step (fun K hK => ?_)
          refine quiet_load_row rfl 41 _ rfl g rfl 52 V (0, 0) _ HMc.out Try.underlying41 rfl HS2.out ?_
          refine hK _ ?_
          clear hK K
          quiet_step (fail)
          refine wpQuiet_nil ?_
          intro _ hw'
          obtain ⟨nq, hw''⟩ := hw'
          subst hw''
          go_wp2_with (first
            | (refine wpList_load_row rfl 52 _ rfl w.heap.size rfl 52 VN (0, 0) _ HMb.out Try.underlying52 rfl HS3.out ?_)
            | (refine wpList_store_row rfl 52 _ _ rfl g VN rfl rfl 52 V HMc.out HS3.out HS4.out HS5.out ?_)
            | go_in)
          go_ret
          refine ⟨fun _ => ⟨rfl, ?_, ?_⟩, fun h => absurd HT2.out h⟩
          · rw [HNe.out]
            have h1 := HMg1.out.setRow HN.out
            rw [HVN.out] at h1
            exact h1
          · have h1 := grown_setRow (w1.drewN nq) g VN
            exact (grown_of_below (pw_below_drewN HB1 nq) (some g)).trans h1
        · rw [hc] at hne
          refine wp_region_quiet_lit (by kernel_rfl) (by kernel_rfl) ?_
          quiet_step (fail)
          refine wpQuiet_step (fun K hK => ?_)
          refine quiet_load_row rfl 41 _ rfl w.heap.size rfl 52 VN (0, 0) _ HMb.out Try.underlying41 rfl HS1.out ?_
          refine hK _ ?_
          clear hK K
          quiet_step (fail)
          quiet_step (fail)
          quiet_step (fail)
          refine wpQuiet_step (fun K hK => ?_)
          refine quiet_load_row rfl 41 _ rfl g rfl 52 V (0, 0) _ HMc.out Try.underlying41 rfl HS2.out ?_
          refine hK _ ?_
          clear hK K
          quiet_step (fail)
          refine wpQuiet_nil ?_
          intro _ hw'
          obtain ⟨nq, hw''⟩ := hw'
          subst hw''
          go_wp2_with fail
          go_ret
          refine ⟨fun _ => ⟨rfl, ?_, ?_⟩, fun h => absurd HT2.out h⟩
          · rw [HNe.out, eq_of_beq hc]
            exact HMg1.out
          · exact grown_of_below (pw_below_drewN HB1 nq) (some g)
      · have hT : ¬ takes L p s := fun h => hy (HT.out.1 h)
        have HT2 := Aside0.mk hT
        have hy2 : (y.toList == s.toList) = false := beq_eq_false_iff_ne.2 (fun h => hy (by
          rw [ByteArray.toList_eq, ByteArray.toList_eq] at h
          exact ByteArray.ext (Array.ext' h)))
        clear hT HT hy
        go_wp2_with fail
        go_ret
        exact ⟨fun h => absurd h HT2.out, fun _ => ⟨rfl, HB1⟩⟩
theorem take_out (g : Nat) (p : Int) (s : ByteArray) (w : World) (hp : p < 0 ∨ 3 < p) :
    Calls Try.prog 36 #[.pointer (some ⟨g, 0, none⟩), .int .i64 p, .string s] w fun e w' => e = .returned (.bool false) ∧ w = w' := by
  rcases hp with h | h
  · go_enter Try.func36, Try.ntmps36
    go_wp2
    go_ret
    exact ⟨rfl, rfl⟩
  · have h2 : ¬ p < 0 := by omega
    go_enter Try.func36, Try.ntmps36
    go_wp2
    go_ret
    exact ⟨rfl, rfl⟩
theorem take_yes (g : Nat) (L : List Int) (p : Nat) (s : ByteArray) (w : World) (h : Mp w g L) (hp : p < 4) (hs : (s.size : Int) ≤ 4611686018427387904) (ht : takes L p s) :
    Calls Try.prog 36 #[.pointer (some ⟨g, 0, none⟩), .int .i64 p, .string s] w fun e w' => e = .returned (.bool true) ∧ Mp w' g (newTo L p s 64) ∧ w.grownBy w' (some g) :=
  (take_loop g L p s w h hp hs).mono fun e w' h => h.1 ht
theorem take_no (g : Nat) (L : List Int) (p : Nat) (s : ByteArray) (w : World) (h : Mp w g L) (hp : p < 4) (hs : (s.size : Int) ≤ 4611686018427387904) (ht : ¬ takes L p s) :
    Calls Try.prog 36 #[.pointer (some ⟨g, 0, none⟩), .int .i64 p, .string s] w fun e w' => e = .returned (.bool false) ∧ Below w.heap.size w w' :=
  (take_loop g L p s w h hp hs).mono fun e w' h => h.2 ht
end Go.Proofs.Ytbdghlneiblkcaa.Imap
