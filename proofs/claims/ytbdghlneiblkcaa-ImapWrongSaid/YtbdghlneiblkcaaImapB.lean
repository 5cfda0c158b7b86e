/- imap.Map: the contracts of piece and Put: a part's 64 sectors, and its block. Conditions: none. -/
import Derived.Test.YtbdghlneiblkcaaImapF
import Derived.Test.YtbdghlneiblkcaaSpanBytes
namespace Go.Proofs.Ytbdghlneiblkcaa.Imap
open Go.RowKit Go.Proofs.YtbdghlneiblkcaaW.PrintWords Go.Proofs.YtbdghlneiblkcaaW.PrintLast Go.Proofs.YtbdghlneiblkcaaW.PrintMore
open Go.Proofs.Ytbdghlneiblkcaa.Aid Go.Proofs.Ytbdghlneiblkcaa.PSpan
set_option linter.unusedVariables false
set_option linter.unusedSimpArgs false

section
variable {P : Program}
/-- Whole cells out of the middle of a block. -/
theorem run_load_mid (w : World) (g : Nat) (t ty : TypeId) (cs : Array Value) (fr : Nat × Nat) (d : TypeDesc) (off n : Nat) (hg : w.heap[g]? = some (.cells cs t fr))
    (hu : P.underlying ty = some d) (hd : (match d with | .struct _ | .array _ _ => true | _ => false) = true) (hi : (P.info? ty).map (·.size) = some n) (hle : off + n ≤ cs.size) :
    (loadVar ty ⟨g, off, none⟩).run P w = .ok (.agg ((cs.toList.drop off).take n).toArray) w := by
  have hlen : ((cs.toList.drop off).take n).length = n := by rw [List.length_take, List.length_drop, Array.length_toList]; omega
  have hl : (loadCells ⟨g, off, none⟩ ((cs.toList.drop off).take n).length).run P w = .ok ((cs.toList.drop off).take n).toArray w :=
    run_loadCells_list (P := P) w ⟨g, off, none⟩ _ (fun j v hv => by
      have hj : j < n := by have := (List.getElem?_eq_some_iff.1 hv).1; rw [hlen] at this; exact this
      have hadd : (⟨g, off, none⟩ : Addr).add j = ⟨g, off + j, none⟩ := by unfold Addr.add; split <;> simp_all
      rw [hadd, cell_of_row w g (off + j) cs t fr hg]
      rw [List.getElem?_take, if_pos hj, List.getElem?_drop] at hv
      rw [← Array.getElem?_toList]
      exact hv)
  cases hq : P.info? ty with
  | none => simp [hq] at hi
  | some i =>
    have hs : i.size = n := by simpa [hq] using hi
    have hagg : (isAgg ty).run P w = .ok true w := by
      unfold isAgg
      rw [Sem.run_bind, run_underlying hu w]
      cases d <;> simp_all
    rw [hlen] at hl
    simp [loadVar, Sem.run_bind, hagg, sizeOf, typeInfo, hq, hs, hl]
theorem wpList_load_mid {ops : Array Oper} {rest : List Oper} {o : Oper} {a : Act} {w : World} {Q : Exit → Act → World → Prop} (hgd : o.guard = none) (ty : TypeId) (x : Operand) (ho : o.op = .load ty x)
    (g off n : Nat) (hx : a.eval x = .pointer (some ⟨g, off, none⟩)) (t : TypeId) (cs : Array Value) (fr : Nat × Nat) (d : TypeDesc) (hg : w.heap[g]? = some (.cells cs t fr))
    (hu : P.underlying ty = some d) (hd : (match d with | .struct _ | .array _ _ => true | _ => false) = true) (hi : (P.info? ty).map (·.size) = some n) (hle : off + n ≤ cs.size)
    (h : wpList P ops Q rest (a.put o.dst (.agg ((cs.toList.drop off).take n).toArray)) w) : wpList P ops Q (o :: rest) a w :=
  wpList_plain hgd fun _ hK => by
    unfold Oper.wp execOp
    simp only [ho, hx, Instr.loadAt, Instr.sureAddr, Sem.run_bind, Sem.run_pure, Result.andThen_ok, run_load_mid w g t ty cs fr d off n hg hu hd hi hle]
    exact hK _ _ h
end

theorem run_arrayAt {P : Program} (w : World) (t e : TypeId) (n : Nat) (a : Addr) (l c : Nat) (ht : P.underlying t = some (.array n e)) (hl : n ≤ l) :
    (Instr.arrayAt t (.slice (some a) l c)).run P w = .ok (.pointer (some a)) w := by
  have h : ¬ l < n := by omega
  simp [Instr.arrayAt, run_underlying ht, h, Result.andThen]
/-- A part's sectors. -/
def partF (L : List Int) (p : Nat) : List Int := (L.drop (64 * p)).take 64
theorem partF_len (L : List Int) (p : Nat) (hL : L.length = 256) (hp : p < 4) : (partF L p).length = 64 := by
  unfold partF; rw [List.length_take, List.length_drop]; omega
theorem vals_part (L : List Int) (p : Nat) : (((vals L).toList.drop (64 * p)).take 64).toArray = vals (partF L p) := by
  unfold vals partF
  simp only [List.map_take, List.map_drop]
def Z64 : List Int := List.replicate 64 0
theorem info59 : (Try.prog.info? 59).map (fun i => (i.zero, i.size)) = some (some (.agg (vals Z64)), 64) := by kernel_rfl

theorem run_part (g p : Nat) (hp : p < 4) (W : World) : (Instr.sliceAt 41 (.pointer (some ⟨g, 0, none⟩)) (some (.int .i64 ((p : Int) * 64))) (some (.int .i64 (((p : Int) + 1) * 64))) none).run Try.prog W = .ok (.slice (some ⟨g, 64 * p, none⟩) 64 (256 - 64 * p)) W := by
  have h : p = 0 ∨ p = 1 ∨ p = 2 ∨ p = 3 := by omega
  rcases h with rfl | rfl | rfl | rfl <;> rfl
set_option maxHeartbeats 1000000 in
set_option maxRecDepth 100000 in
theorem piece_calls (g : Nat) (L : List Int) (p : Nat) (w : World) (h : Mp w g L) (hp : p < 4) :
    Calls Try.prog 44 #[.pointer (some ⟨g, 0, none⟩), .int .i64 p] w fun e w' => e = .returned (.agg (vals (partF L p))) ∧ Below w.heap.size w w' := by
  have HM := Aside0.mk h
  have hz := (zero_of_info info59).1
  have hn59 := (zero_of_info info59).2
  have HV := Aside0.mk (vals_part L p)
  have hVl : (vals (partF L p)).size = 64 := by rw [vals_size, partF_len L p h.2 hp]
  have hZl : (vals Z64).size = 64 := by rw [vals_size]; exact List.length_replicate
  have hall : (vals (partF L p)).all (·.oneCell') = true := by
    rw [Array.all_eq_true_iff_forall_mem]
    intro x hx
    unfold vals at hx
    simp only [List.mem_toArray, List.mem_map] at hx
    obtain ⟨y, _, rfl⟩ := hx
    rfl
  have hlv : (vals L).size = 256 := by rw [vals_size, h.2]
  clear h
  generalize vals Z64 = VZ at *
  have hpt : ∀ (W : World) (a : Addr) (c : Nat), (Instr.arrayAt 59 (.slice (some a) 64 c)).run Try.prog W = .ok (.pointer (some a)) W := fun W a c => run_arrayAt W 59 3 64 a 64 c Try.underlying59 (Nat.le_refl _)
  have hsl := run_part g p hp
  have hMa : (w.alloc (.cells VZ 59)).heap[g]? = some (.cells (vals L) 52 (0, 0)) := (heap_alloc_old w _ HM.out.lt).trans HM.out.1
  have HMa := Aside0.mk hMa
  have hmin : min 64 (256 - 64 * p) = 64 := by omega
  have hst := run_storeCells_new (P := Try.prog) w 59 VZ (vals (partF L p)) (by rw [hVl]; exact hn59) (by rw [hZl, hVl]) hall
  rw [← HV.out] at hst
  simp only [List.toList_toArray] at hst
  clear hMa
  go_enter Try.func44, Try.ntmps44
  go_wp2_with (first
    | (refine wpList_load_mid rfl 59 _ rfl g (64 * p) 64 rfl 52 (vals L) (0, 0) _ HMa.out Try.underlying59 rfl hn59 (by omega) ?_)
    | go_in)
  rw [HV.out]
  refine bodyPost_ret (v := .agg (vals (partF L p))) ?_ rfl ⟨rfl, (Below.refl _ _).alloc (Nat.le_refl _) _⟩
  exact results_cell_row Try.results44 _ _ w.heap.size 59 _ (0, 0) _ rfl (heap_alloc_last w _) Try.underlying59 rfl (by rw [hVl]; exact hn59)

/-- A part's block. -/
def putF (L : List Int) (p : Nat) : ByteArray := strOfNums (flat2 (partF L p) ++ List.replicate 128 0)

set_option maxHeartbeats 4000000 in
set_option maxRecDepth 100000 in
theorem put_in (g : Nat) (L : List Int) (p : Nat) (w : World) (h : Mp w g L) (hp : p < 4) :
    Calls Try.prog 34 #[.pointer (some ⟨g, 0, none⟩), .int .i64 p] w fun e w' => e = .returned (.string (putF L p)) ∧ Below w.heap.size w w' := by
  have HM := Aside0.mk h
  have hMl := partF_len L p h.2 hp
  have hF : Aside0 (putF L p = strOfNums (flat2 (partF L p) ++ List.replicate 128 0)) := ⟨rfl⟩
  have HG := h.lt
  clear h
  generalize hM0 : partF L p = M at *
  have HM0 := Aside0.mk hM0
  clear hM0
  generalize putF L p = R at *
  have hidx : ∀ (W : World) (k : Nat), k < 64 → (Instr.index 59 (.agg (vals M)) (.int .i64 k)).run Try.prog W = .ok (.int .i64 (M.getD k 0)) W := fun W k hk =>
    run_index_arr W 59 3 64 (vals M) .i64 k _ Try.underlying59 (isAgg3 W) (size3 W) hk (vals_at M k (by rw [hMl]; exact hk))
  have HI := Aside0.mk hidx
  clear hidx
  obtain ⟨i5, hi5, hz5, hs5, hb5⟩ := info_parts info5
  have hmk : ∀ W : World, (Instr.makeSlice 48 (.int .i64 0) (.int .i64 256)).run Try.prog W = .ok (.slice (some ⟨W.heap.size, 0, none⟩) 0 256) (W.alloc (.cells (madeCells #[.int .u8 0] 256) 5)) := fun W => by
    have h := run_make (P := Try.prog) W 48 5 i5 (.int .u8 0) Try.underlying48 hi5 hz5 .i64 .i64 0 256 (by omega) (by omega) (by rw [hb5]; omega) (by omega)
    rw [hs5] at h
    exact h
  have hown0 : (w.alloc (.cells (madeCells #[.int .u8 0] 256) 5)).ownsRow w.heap.size 5 1 (.slice (some ⟨w.heap.size, 0, none⟩) 0 256) ([] : List Int).length (encs (Value.int .u8) []) :=
    ⟨rfl, .inr ⟨w.heap.size, 256, madeCells #[.int .u8 0] 256, rfl, Nat.le_refl _, (MapKept.heap_alloc w _).1, Nat.zero_le _, by unfold maxLen; omega, by rw [size_madeCells], rfl⟩⟩
  have HO0 : (Kd.int .u8).R 5 (w.alloc (.cells (madeCells #[.int .u8 0] 256) 5)) w.heap.size (fun _ => True) (.slice (some ⟨w.heap.size, 0, none⟩) 0 256) [] := Kd.R_of_own (h1 := fun _ => rfl) hown0 (fun _ _ => trivial)
  have HMa : Aside0 (Mp (w.alloc (.cells (madeCells #[.int .u8 0] 256) 5)) g L) := ⟨⟨(heap_alloc_old w _ HM.out.lt).trans HM.out.1, HM.out.2⟩⟩
  have HB0 : Below w.heap.size w (w.alloc (.cells (madeCells #[.int .u8 0] 256) 5)) := (Below.refl _ _).alloc (Nat.le_refl _) _
  have HO0 := Aside0.mk HO0
  clear hown0 hz5 hs5 hb5 hi5
  go_enter Try.func34, Try.ntmps34
  go_wp2_with fail
  refine (piece_calls g L p _ HMa.out hp).mono ?_
  rintro e w1 ⟨rfl, hb1⟩
  rw [HM0.out]
  have HO1 := Kd.R_below HO0.out hb1
  have HB1 := below_step HB0 hb1
  clear hb1 HB0 HO0 HMa
  have hx0 := HI.out
  generalize hV : vals M = V at *
  clear hV hmk
  go_wp2_with fail
  go_loopw [5, 18] (fun v i wr => ∃ k : Nat, k ≤ 64 ∧ i = .int .i64 k ∧ (Kd.int .u8).R 5 wr w.heap.size (fun _ => True) v (flat2 (M.take k)) ∧ Below w.heap.size w wr)
    (fun _ i _ => 64 - (intOf i).toNat)
  case atStart => exact ⟨0, Nat.zero_le _, rfl, HO1, HB1⟩
  case round =>
    clear HO1 HB1
    obtain ⟨k, hk, rfl, HO, HB⟩ := hrel
    by_cases hlt : k < 64
    · have hx := fun W : World => hx0 W k hlt
      clear hx0
      have hlt2 : k < M.length := by omega
      obtain ⟨x, hxe⟩ : ∃ x, M[k] = x := ⟨_, rfl⟩
      have hgd : M.getD k 0 = x := by rw [List.getD_eq_getElem?_getD, List.getElem?_eq_getElem hlt2, ← hxe]; rfl
      rw [hgd] at hx
      have htk : Aside0 (flat2 (M.take (k + 1)) = flat2 (M.take k) ++ ordF (IntKind.u64.wrap x) 2) := ⟨by rw [List.take_add_one, List.getElem?_eq_getElem hlt2, ← flat2_snoc, ← hxe]; rfl⟩
      have hfl := flat2_length (M.take k)
      rw [List.length_take] at hfl
      obtain ⟨y, hy⟩ : ∃ y, strOfNums (ordF (IntKind.u64.wrap x) 2) = y := ⟨_, rfl⟩
      have hput : Aside0 (bin_Put.f 8 x 2 = some y) := ⟨by rw [put_eq _ _ (by omega), ← hy]; rfl⟩
      have hby : Aside0 (bytesOf y = ordF (IntKind.u64.wrap x) 2) := ⟨by rw [← hy, bytesOf_strOfNums (byt_ordF 2 _)]⟩
      have hys : y.size = 2 := by rw [← hy, strOfNums_size, ordF_length]
      clear hy hxe hgd
      go_wp2_with (first
        | (go_at_call 41; go_loud (refine (bin_Put.calls 8 x 2 y _ hput.out).mono ?_; rintro e w1 ⟨rfl, hb⟩; replace HO := Kd.R_below HO hb; replace HB := below_step HB hb; clear hb))
        | (at_builtin; refine print_append_str (w0 := w) w.heap.size rfl (.tmp 21) _ 48 9 5 rfl Try.underlying48 Try.underlying9 info5 _ (flat2 (M.take k)) y rfl rfl (Kd.own_of_R HO) HB HB.size (by omega) ?_; intro v1 w2 ho0 hb2 hg; have ho := Kd.R_of_own (h1 := fun _ => rfl) (ok := fun _ => True) ho0 (fun _ _ => trivial); clear ho0)
        | go_in)
      go_roundw
      case rel => exact ⟨k + 1, by omega, by go_num, by rw [htk.out, ← hby.out]; exact ho, hb2⟩
      case measure => simp only [intOf]; (try rw [w64 (by omega) (by omega)]); omega
    · obtain rfl : k = 64 := by omega
      clear hx0
      rw [show M.take 64 = M by rw [List.take_of_length_le (by omega)]] at HO
      have hfl : (flat2 M).length = 128 := by rw [flat2_length, hMl]
      obtain ⟨F, hFe⟩ : ∃ F, flat2 M = F := ⟨_, rfl⟩
      have hFA := Aside0.mk hFe
      rw [hFe] at HO hfl hF
      clear hFe
      have hw2 : (256 : Int) - (F.length : Int) = 128 := by omega
      obtain ⟨Ao, co, eo⟩ := Kd.R_slice HO
      subst eo
      go_wp2_with (first
        | (at_builtin; go_loud (refine Kd.R_append_zeros (Kd.int .u8) (w0 := w) w.heap.size rfl (.tmp 26) (.tmp 29) 48 3 5 (.int .u8 0) 1 rfl Try.underlying48 Try.underlying3 info5 rfl (by decide) (by omega) _ F 0 128 (fun _ => True) rfl rfl rfl (fun _ _ => trivial) HO (by omega) HB HB.size (by omega) ?_; intro v1 w2 ho hb2 hg hat; have hcv := own_string (P := Try.prog) (src := 48) (dst := 9) Try.underlying48 Try.underlying5 Try.underlying9 (Kd.own_of_R ho); (try simp only [Int.toNat_natCast, Int.reduceToNat] at hcv)))
        | go_in)
      go_ret
      exact ⟨by rw [hF.out]; rfl, hb2⟩
theorem put_out (g : Nat) (p : Int) (w : World) (hp : p < 0 ∨ 3 < p) :
    Calls Try.prog 34 #[.pointer (some ⟨g, 0, none⟩), .int .i64 p] w fun e w' => e = .returned (.string ByteArray.empty) ∧ w = w' := by
  rcases hp with h | h
  · go_enter Try.func34, Try.ntmps34
    go_wp2
    go_ret
    exact ⟨rfl, rfl⟩
  · have h2 : ¬ p < 0 := by omega
    go_enter Try.func34, Try.ntmps34
    go_wp2
    go_ret
    exact ⟨rfl, rfl⟩
end Go.Proofs.Ytbdghlneiblkcaa.Imap
