/- The contracts of pool.Free and pool.Take: at houses of fewer segments than the model's longest length, all of them int's, the answers are free segments in new memory. -/
import Derived.Test.YtkdjjkcoonlddaaPoolTaken
namespace Go.Proofs.Ytkdjjkcoonlddaa.PPool
open Go.RowKit Go.Maps Go.Proofs.YtkdjjkcoonlddaaW.PrintWords Go.Proofs.YtkdjjkcoonlddaaW.PrintLast Go.Proofs.YtkdjjkcoonlddaaW.PrintMore
open Go.Proofs.Ytkdjjkcoonlddaa.Sets Go.Proofs.Ytkdjjkcoonlddaa.Aid
attribute [local go_sem] max2_int min2_int max_two min_two max_three min_three max_four min_four
set_option linter.unusedVariables false
set_option linter.unusedSimpArgs false

/-- Of the segments below k those that no house has. -/
def freeTo (l : List S36) (k : Nat) : List Int := ((List.range k).map Int.ofNat).filter fun s => !(segsOf l).contains s
theorem freeTo_succ (l : List S36) (k : Nat) : freeTo l (k + 1) = freeTo l k ++ if (segsOf l).contains (k : Int) = true then [] else [(k : Int)] := by
  unfold freeTo
  rw [List.range_succ, List.map_append, List.filter_append]
  congr 1
  cases h : (segsOf l).contains (k : Int)
  · have hm : ¬ (k : Int) ∈ segsOf l := by simpa using h
    simp [hm]
  · have hm : (k : Int) ∈ segsOf l := by simpa using h
    simp [hm]
theorem freeTo_le (l : List S36) (k : Nat) : (freeTo l k).length ≤ k := by
  unfold freeTo
  refine Nat.le_trans (List.length_filter_le _ _) ?_
  simp

/-- The houses' segments are int's, and not too many. -/
def sane (l : List S36) : Prop := (segsOf l).length < maxLen ∧ ∀ x ∈ segsOf l, (Lit.int .i64 x).wf = true
instance (l : List S36) : Decidable (sane l) := by unfold sane; infer_instance

set_option maxHeartbeats 8000000 in
set_option maxRecDepth 100000 in
theorem free_calls (a0 : Int) (A1 : Option Addr) (c1 : Nat) (l1 : List S36) (n : Nat) (w : World) (hr1 : Kd.C k36 w A1 l1.length l1) (hc1 : l1.length ≤ c1) (hs : sane l1) (hn : Aside0 (mx 0 (mn a0 65536) = (n : Int))) (hn1 : n ≤ 65536) :
    Calls Try.prog 21 #[.int .i64 a0, .slice A1 l1.length c1] w fun e w' => ∃ v0_ : Value, e = .returned (v0_) ∧ Kd.R (Kd.int .i64) 3 w' w.heap.size (fun _ => True) v0_ (freeTo l1 n) ∧ Below w.heap.size w w' := by
  obtain ⟨m, hm⟩ : ∃ m, (if (65536 : Int) < a0 then (65536 : Int) else a0) = m := ⟨_, rfl⟩
  have hm2 : (if (0 : Int) < m then m else (0 : Int)) = (n : Int) := by have := hn.out; unfold mx mn at this; rw [hm] at this; exact this
  go_enter Try.func21, Try.ntmps21
  go_wp2_with (first
    | (go_at_call 51; go_loud (refine (taken_calls A1 c1 l1 _ hr1 hc1 hs.1 hs.2).mono ?_; rintro e w1 ⟨rfl, hown, HB⟩))
    | go_in)
  all_goals
    go_loopw [6, 13] (fun v i wr => ∃ k : Nat, k ≤ n ∧ i = .int .i64 k ∧ Kd.R (Kd.int .i64) 3 wr w.heap.size (fun j => j ≠ w.heap.size) v (freeTo l1 k) ∧ wr.ownsMap Try.prog 3 (plainElem Try.prog 4) w.heap.size (segsOf l1).length (setD (segsOf l1)) ∧ Below w.heap.size w wr)
      (fun _ i _ => n - (intOf i).toNat)
    case atStart => exact ⟨0, Nat.zero_le _, rfl, Kd.R_nil _ _ _ _ _, hown, HB⟩
    case round =>
      clear hown HB
      obtain ⟨k, hk, rfl, HO, hown, HB⟩ := hrel
      by_cases hlt : k < n
      · have c1 : decide ((k : Int) < (n : Int)) = true := decide_eq_true (by omega)
        have hwf : (Lit.int .i64 (k : Int)).wf = true := by have h := wrap64_wf (k : Int); rwa [w64 (by omega) (by omega)] at h
        have hst := freeTo_succ l1 k
        have hle := freeTo_le l1 k
        by_cases hct : (segsOf l1).contains (k : Int) = true
        · rw [if_pos hct, List.append_nil] at hst
          go_wp2_with (first
            | (at_lookup; refine wp_set_look rfl _ rfl _ _ 75 rfl Try.underlying75 w.heap.size _ _ rfl hown (k : Int) rfl hwf true hct ?_)
            | go_in)
          go_roundw
          case rel => exact ⟨k + 1, by omega, by go_num, hst.symm ▸ HO, hown, HB⟩
          case measure => simp only [intOf]; (try rw [w64 (by omega) (by omega)]); omega
        · replace hct := Bool.eq_false_iff.mpr hct
          rw [hct, if_neg (by decide)] at hst
          go_wp2_with (first
            | (at_lookup; refine wp_set_look rfl _ rfl _ _ 75 rfl Try.underlying75 w.heap.size _ _ rfl hown (k : Int) rfl hwf false hct ?_)
            | ((with_reducible refine gate_builtin (b := .append) (xs := #[.tmp 20, .tmp 22]) rfl ?_); at_builtin; refine Kd.R_append (Kd.int .i64) (w0 := w) w.heap.size rfl (.tmp 20) (.tmp 22) 26 3 (.int .i64 0) 8 rfl Try.underlying26 info3 rfl (by decide) (by omega) _ (freeTo l1 k) (k : Int) [.int .i64 k] (fun j => j ≠ w.heap.size) (fun _ => False) rfl rfl ?aP (fun _ hk => hk.elim) ?aF HO HB ?aS ?aL ?_; (case aP => exact rfl); (case aF => intro j hj; have := HB.size; have := hown.lt; omega); (case aS => exact HB.size); (case aL => omega); intro v111 w14 ho hb hg hat)
            | go_in)
          go_roundw
          case rel => exact ⟨k + 1, by omega, by go_num, hst.symm ▸ ho, hown.kept hg (fun e => HO.1 _ e.symm rfl), hb⟩
          case measure => simp only [intOf]; (try rw [w64 (by omega) (by omega)]); omega
      · have c1 : decide ((k : Int) < (n : Int)) = false := decide_eq_false (by omega)
        obtain rfl : k = n := by omega
        go_wp2
        go_ret
        exact ⟨_, rfl, Kd.R_mono HO (fun _ _ => trivial), HB⟩

/-- The free segments. -/
def freeOf (a0 : Int) (l : List S36) : List Int := freeTo l (mx 0 (mn a0 65536)).toNat
def pool_Free.f (a0 : Int) (l1 : List S36) : Option (List Int) := if sane l1 then some (freeOf a0 l1) else none
def pool_Take.f (a0 : Int) (l1 : List S36) (a2 : Int) : Option (List Int × Bool) :=
  if sane l1 then (if a2 < 0 ∨ a2 > ((freeOf a0 l1).length : Int) then some ([], false) else some ((freeOf a0 l1).take a2.toNat, true)) else none

theorem free_bd (a0 : Int) : mx 0 (mn a0 65536) = (((mx 0 (mn a0 65536)).toNat : Nat) : Int) ∧ (mx 0 (mn a0 65536)).toNat ≤ 65536 := by
  unfold mx mn; omega

theorem pool_Free.calls (a0 : Int) (A1 : Option Addr) (c1 : Nat) (l1 : List S36) (r : List Int) (w : World) (hr1 : Kd.C k36 w A1 l1.length l1) (hc1 : l1.length ≤ c1) (h : pool_Free.f a0 l1 = some r) :
    Calls Try.prog 21 #[.int .i64 a0, .slice A1 l1.length c1] w fun e w' => ∃ v0_ : Value, e = .returned (v0_) ∧ Kd.R (Kd.int .i64) 3 w' w.heap.size (fun _ => True) v0_ r ∧ Below w.heap.size w w' := by
  unfold pool_Free.f at h
  by_cases hs : sane l1
  · rw [if_pos hs] at h
    obtain rfl := Option.some.inj h
    exact free_calls a0 A1 c1 l1 _ w hr1 hc1 hs ⟨(free_bd a0).1⟩ (free_bd a0).2
  · rw [if_neg hs] at h; cases h

set_option maxHeartbeats 8000000 in
set_option maxRecDepth 100000 in
theorem pool_Take.calls (a0 : Int) (A1 : Option Addr) (c1 : Nat) (l1 : List S36) (a2 : Int) (r1 : List Int) (r2 : Bool) (w : World) (hr1 : Kd.C k36 w A1 l1.length l1) (hc1 : l1.length ≤ c1) (h : pool_Take.f a0 l1 a2 = some (r1, r2)) :
    Calls Try.prog 18 #[.int .i64 a0, .slice A1 l1.length c1, .int .i64 a2] w fun e w' => ∃ v0_ : Value, e = .returned (.tuple #[v0_, .bool r2]) ∧ Kd.V (Kd.int .i64) 3 w' w.heap.size (fun k_ => w.heap.size ≤ k_) v0_ r1 ∧ Below w.heap.size w w' := by
  unfold pool_Take.f at h
  by_cases hs : sane l1
  · rw [if_pos hs] at h
    obtain ⟨fr, hfr⟩ : ∃ fr, freeOf a0 l1 = fr := ⟨_, rfl⟩
    have hf : Aside0 (pool_Free.f a0 l1 = some fr) := ⟨by unfold pool_Free.f; rw [if_pos hs, hfr]⟩
    rw [hfr] at h
    by_cases h1 : a2 < 0
    · rw [if_pos (Or.inl h1)] at h
      simp only [Option.some.injEq, Prod.mk.injEq] at h
      obtain ⟨rfl, rfl⟩ := h
      have d1 : decide (a2 < 0) = true := decide_eq_true h1
      go_enter Try.func18, Try.ntmps18
      go_wp2_with (first
        | (go_at_call 21; go_loud (refine (pool_Free.calls a0 A1 c1 l1 fr _ hr1 hc1 hf.out).mono ?_; rintro e w1 ⟨v0, rfl, HO, HB⟩))
        | go_in)
      go_ret2
      exact ⟨_, rfl, Kd.V_nil _ _ _ _ _, HB⟩
    · by_cases h2 : a2 > (fr.length : Int)
      · rw [if_pos (Or.inr h2)] at h
        simp only [Option.some.injEq, Prod.mk.injEq] at h
        obtain ⟨rfl, rfl⟩ := h
        have d1 : decide (a2 < 0) = false := decide_eq_false h1
        have d2 : decide ((fr.length : Int) < a2) = true := decide_eq_true h2
        go_enter Try.func18, Try.ntmps18
        go_wp2_with (first
          | (go_at_call 21; go_loud (refine (pool_Free.calls a0 A1 c1 l1 fr _ hr1 hc1 hf.out).mono ?_; rintro e w1 ⟨v0, rfl, HO, HB⟩; obtain ⟨Ao, co, eo⟩ := Kd.R_slice HO; subst eo))
          | go_in)
        go_ret2
        exact ⟨_, rfl, Kd.V_nil _ _ _ _ _, HB⟩
      · rw [if_neg (by omega)] at h
        simp only [Option.some.injEq, Prod.mk.injEq] at h
        obtain ⟨rfl, rfl⟩ := h
        have d1 : decide (a2 < 0) = false := decide_eq_false h1
        have d2 : decide ((fr.length : Int) < a2) = false := decide_eq_false h2
        obtain ⟨m, rfl⟩ := Int.eq_ofNat_of_zero_le (show 0 ≤ a2 by omega)
        have hm : m ≤ fr.length := by omega
        go_enter Try.func18, Try.ntmps18
        go_wp2_with (first
          | (go_at_call 21; go_loud (refine (pool_Free.calls (m : Int) A1 c1 l1 fr _ hr1 hc1 hf.out).mono ?_; rintro e w1 ⟨v0, rfl, HO, HB⟩; obtain ⟨Ao, co, eo⟩ := Kd.R_slice HO; subst eo))
          | (go_at_call 21; go_loud (refine (pool_Free.calls a0 A1 c1 l1 fr _ hr1 hc1 hf.out).mono ?_; rintro e w1 ⟨v0, rfl, HO, HB⟩; obtain ⟨Ao, co, eo⟩ := Kd.R_slice HO; subst eo; have hco := (Kd.R_reads' HO).2.1; obtain ⟨i0, hi0, _, hsz, _⟩ := info_parts info3))
          | go_in)
        go_ret2
        refine ⟨_, rfl, ?_, HB⟩
        have hv := Kd.F_take (Kd.V_at (Kd.R_V (base' := w.heap.size) (Kd.R_mono (ok' := fun k_ => w.heap.size ≤ k_) (Kd.R_bound HO) (fun k hk => hk.2.1)))).2.2 hm
        have hl : (fr.take m).length = m := by rw [List.length_take]; omega
        rw [Int.toNat_natCast]
        exact ⟨Ao, m, by rw [hl]; rfl, by rw [hl]; exact Nat.le_refl _, hv⟩
  · rw [if_neg hs] at h; cases h
end Go.Proofs.Ytkdjjkcoonlddaa.PPool
