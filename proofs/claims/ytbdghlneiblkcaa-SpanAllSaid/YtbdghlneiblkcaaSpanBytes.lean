/- The contract of span.Bytes: the block of the first 64 numbers of a list, two bytes each, filled up with zeros to 256. Conditions: none. -/
import Derived.Test.YtbdghlneiblkcaaBinPlain
namespace Go.Proofs.Ytbdghlneiblkcaa.PSpan
open Go.RowKit Go.Proofs.YtbdghlneiblkcaaW.PrintWords Go.Proofs.YtbdghlneiblkcaaW.PrintLast Go.Proofs.YtbdghlneiblkcaaW.PrintMore
open Go.Proofs.Ytbdghlneiblkcaa.Aid
attribute [local go_sem] max2_int min2_int max_two min_two max_three min_three max_four min_four
set_option linter.unusedVariables false
set_option linter.unusedSimpArgs false

/-- The bytes of numbers, two each. -/
def flat2 (l : List Int) : List Int := l.flatMap fun v => ordF (IntKind.u64.wrap v) 2
theorem flat2_snoc (l : List Int) (x : Int) : flat2 (l ++ [x]) = flat2 l ++ ordF (IntKind.u64.wrap x) 2 := by
  unfold flat2; rw [List.flatMap_append]; simp
theorem flat2_length (l : List Int) : (flat2 l).length = 2 * l.length := by
  unfold flat2
  induction l with
  | nil => rfl
  | cons v t ih => rw [List.flatMap_cons, List.length_append, ih, ordF_length, List.length_cons]; omega
/-- A block's bytes. -/
def blockF (l : List Int) : List Int := flat2 (l.take 64) ++ List.replicate (256 - 2 * (l.take 64).length) 0

set_option maxHeartbeats 8000000 in
set_option maxRecDepth 100000 in
theorem bytes_calls (A0 : Option Addr) (c0 : Nat) (l : List Int) (n : Nat) (w : World) (hr0 : Kd.C (Kd.int .i64) w A0 l.length l) (hc0 : l.length ≤ c0) (hn : Aside0 ((if (64 : Int) < (l.length : Int) then (64 : Int) else (l.length : Int)) = (n : Int))) (hn1 : n ≤ 64) (hn2 : n ≤ l.length) :
    Calls Try.prog 24 #[.slice A0 l.length c0] w fun e w' => e = .returned (.string (strOfNums (flat2 (l.take n) ++ List.replicate (256 - 2 * n) 0))) ∧ Below w.heap.size w w' := by
  have hmax : l.length ≤ 9223372036854775807 := Kd.C_max hr0
  have hm := hn.out
  obtain ⟨i5, hi5, hz5, hs5, hb5⟩ := info_parts info5
  have hmk : ∀ W : World, (Instr.makeSlice 48 (.int .i64 0) (.int .i64 256)).run Try.prog W = .ok (.slice (some ⟨W.heap.size, 0, none⟩) 0 256) (W.alloc (.cells (madeCells #[.int .u8 0] 256) 5)) := fun W => by
    have h := run_make (P := Try.prog) W 48 5 i5 (.int .u8 0) Try.underlying48 hi5 hz5 .i64 .i64 0 256 (by omega) (by omega) (by rw [hb5]; omega) (by omega)
    rw [hs5] at h
    exact h
  have hown0 : (w.alloc (.cells (madeCells #[.int .u8 0] 256) 5)).ownsRow w.heap.size 5 1 (.slice (some ⟨w.heap.size, 0, none⟩) 0 256) ([] : List Int).length (encs (Value.int .u8) []) :=
    ⟨rfl, .inr ⟨w.heap.size, 256, madeCells #[.int .u8 0] 256, rfl, Nat.le_refl _, (MapKept.heap_alloc w _).1, Nat.zero_le _, by unfold maxLen; omega, by rw [size_madeCells], rfl⟩⟩
  have HO0 : (Kd.int .u8).R 5 (w.alloc (.cells (madeCells #[.int .u8 0] 256) 5)) w.heap.size (fun _ => True) (.slice (some ⟨w.heap.size, 0, none⟩) 0 256) [] := Kd.R_of_own (h1 := fun _ => rfl) hown0 (fun _ _ => trivial)
  obtain ⟨i3, hi3, _, hs3, _⟩ := info_parts info3
  have hcut := cut_to (P := Try.prog) 22 3 .i64 Try.underlying22 hi3 A0 l.length c0 (n : Int) (by omega) (by omega) hc0
  simp only [Int.toNat_natCast] at hcut
  clear hown0 hz5 hs5 hb5 hi5
  go_enter Try.func24, Try.ntmps24
  go_wp2
  go_loopw [3, 13] (fun v i wr => ∃ k : Nat, k ≤ n ∧ i = .int .i64 k ∧ (Kd.int .u8).R 5 wr w.heap.size (fun _ => True) v (flat2 (l.take k)) ∧ Below w.heap.size w wr)
    (fun _ i _ => n - (intOf i).toNat)
  case atStart => exact ⟨0, Nat.zero_le _, rfl, HO0, (Below.refl _ _).alloc (Nat.le_refl _) _⟩
  case round =>
    clear HO0
    obtain ⟨k, hk, rfl, HO, HB⟩ := hrel
    by_cases hlt : k < n
    · have c1 : decide ((k : Int) < (n : Int)) = true := decide_eq_true (by omega)
      have hlt2 : k < l.length := by omega
      obtain ⟨ad, ead, hx0⟩ := Kd.at_int hr0 (k : Int) (by omega) (by omega)
      cases ead
      replace hx0 := (HB.cell (World.block_lt_of_cell? w _ hx0)).trans hx0
      simp only [Int.toNat_natCast] at hx0
      obtain ⟨x, hx⟩ : ∃ x, l[k] = x := ⟨_, rfl⟩
      have hrd : rd l (k : Int) = x := by
        unfold rd
        rw [Int.toNat_natCast, List.getD_eq_getElem?_getD, List.getElem?_eq_getElem hlt2, ← hx]; rfl
      rw [hrd] at hx0
      clear hrd
      have htk : Aside0 (flat2 (l.take (k + 1)) = flat2 (l.take k) ++ ordF (IntKind.u64.wrap x) 2) := ⟨by rw [List.take_add_one, List.getElem?_eq_getElem hlt2, ← flat2_snoc, ← hx]; rfl⟩
      have hfl := flat2_length (l.take k)
      rw [List.length_take] at hfl
      obtain ⟨y, hy⟩ : ∃ y, strOfNums (ordF (IntKind.u64.wrap x) 2) = y := ⟨_, rfl⟩
      have hput : Aside0 (bin_Put.f 8 x 2 = some y) := ⟨by rw [put_eq _ _ (by omega), ← hy]; rfl⟩
      have hby : Aside0 (bytesOf y = ordF (IntKind.u64.wrap x) 2) := ⟨by rw [← hy, bytesOf_strOfNums (byt_ordF 2 _)]⟩
      have hys : y.size = 2 := by rw [← hy, strOfNums_size, ordF_length]
      clear hy hx
      go_wp2_with (first
        | (go_at_call 41; go_loud (refine (bin_Put.calls 8 x 2 y _ hput.out).mono ?_; rintro e w1 ⟨rfl, hb⟩; replace HO := Kd.R_below HO hb; replace HB := below_step HB hb; clear hb))
        | (at_builtin; refine print_append_str (w0 := w) w.heap.size rfl (.tmp 17) _ 48 9 5 rfl Try.underlying48 Try.underlying9 info5 _ (flat2 (l.take k)) y rfl rfl (Kd.own_of_R HO) HB HB.size (by omega) ?_; intro v1 w2 ho0 hb2 hg; have ho := Kd.R_of_own (h1 := fun _ => rfl) (ok := fun _ => True) ho0 (fun _ _ => trivial); clear ho0)
        | go_in)
      go_roundw
      case rel => exact ⟨k + 1, by omega, by go_num, by rw [htk.out, ← hby.out]; exact ho, hb2⟩
      case measure => simp only [intOf]; (try rw [w64 (by omega) (by omega)]); omega
    · have c1 : decide ((k : Int) < (n : Int)) = false := decide_eq_false (by omega)
      obtain rfl : k = n := by omega
      have hfl : (flat2 (l.take k)).length = 2 * k := by rw [flat2_length, List.length_take]; omega
      obtain ⟨m, hm0⟩ : ∃ m : Nat, m = 256 - 2 * k := ⟨_, rfl⟩
      have hmA := Aside0.mk hm0
      obtain ⟨F, hFe⟩ : ∃ F, flat2 (l.take k) = F := ⟨_, rfl⟩
      have hFA := Aside0.mk hFe
      rw [hFe] at HO hfl
      clear hFe
      have hFm : F.length + m = 256 := by omega
      clear hfl hm0
      have hw : wrap64 ((256 : Int) - (F.length : Int)) = (m : Int) := by rw [w64 (by omega) (by omega)]; omega
      have hw2 : (256 : Int) - (F.length : Int) = (m : Int) := by omega
      obtain ⟨Ao, co, eo⟩ := Kd.R_slice HO
      subst eo
      go_wp2_with (first
        | (at_builtin; go_loud (refine Kd.R_append_zeros (Kd.int .u8) (w0 := w) w.heap.size rfl (.tmp 22) (.tmp 25) 48 3 5 (.int .u8 0) 1 rfl Try.underlying48 Try.underlying3 info5 rfl (by decide) (by omega) _ F 0 (m : Int) (fun _ => True) rfl rfl rfl (fun _ _ => trivial) HO (by omega) HB HB.size (by omega) ?_; intro v1 w2 ho hb2 hg hat; have hcv := own_string (P := Try.prog) (src := 48) (dst := 9) Try.underlying48 Try.underlying5 Try.underlying9 (Kd.own_of_R ho); simp only [Int.toNat_natCast] at hcv))
        | go_in)
      go_ret
      exact ⟨by rw [hFA.out, ← hmA.out]; rfl, hb2⟩

def span_Bytes.f (l : List Int) : Option ByteArray := some (strOfNums (blockF l))
theorem span_Bytes.calls (A0 : Option Addr) (c0 : Nat) (l : List Int) (r : ByteArray) (w : World) (hr0 : Kd.C (Kd.int .i64) w A0 l.length l) (hc0 : l.length ≤ c0) (h : span_Bytes.f l = some r) :
    Calls Try.prog 24 #[.slice A0 l.length c0] w fun e w' => e = .returned (.string r) ∧ Below w.heap.size w w' := by
  obtain rfl := Option.some.inj h
  have e1 : l.take 64 = l.take (min l.length 64) := by
    by_cases hc : l.length ≤ 64
    · rw [Nat.min_eq_left hc, List.take_length, List.take_of_length_le hc]
    · rw [Nat.min_eq_right (by omega)]
  have e2 : (l.take 64).length = min l.length 64 := by rw [List.length_take]; omega
  unfold blockF
  rw [e2, e1]
  refine bytes_calls A0 c0 l (min l.length 64) w hr0 hc0 ⟨?_⟩ (by omega) (by omega)
  by_cases hc : (64 : Int) < (l.length : Int)
  · rw [if_pos hc]; omega
  · rw [if_neg hc]; omega
end Go.Proofs.Ytbdghlneiblkcaa.PSpan
