/- imap.Map: what a map of nodes is in memory, and the contracts of New, Get, Set, First, Nodes. Conditions: none. -/
import Derived.Test.YtbdghlneiblkcaaProg
import Derived.Test.YtbdghlneiblkcaaAid
import Derived.Test.YtbdghlneiblkcaaWLast
import Derived.Test.YtbdghlneiblkcaaWMore
import Derived.Deep.WholeRow
import Derived.Test.YtbdghlneiblkcaaPSpanx0
import Derived.Outline
import Derived.Deep.DeepFit
namespace Go.Proofs.Ytbdghlneiblkcaa.Imap
open Go.RowKit Go.Proofs.YtbdghlneiblkcaaW.PrintWords Go.Proofs.YtbdghlneiblkcaaW.PrintLast Go.Proofs.YtbdghlneiblkcaaW.PrintMore
open Go.Proofs.Ytbdghlneiblkcaa.PSpan (info3)
open Go.Proofs.Ytbdghlneiblkcaa.Aid
set_option linter.unusedVariables false
set_option linter.unusedSimpArgs false

/-- The block of a map: 256 numbers. -/
def vals (L : List Int) : Array Value := (L.map (Value.int .i64)).toArray
def Mp (w : World) (g : Nat) (L : List Int) : Prop := w.heap[g]? = some (.cells (vals L) 52 (0, 0)) ∧ L.length = 256
theorem vals_size (L : List Int) : (vals L).size = L.length := by simp [vals]
section
variable {w w' : World} {g : Nat} {L : List Int}
theorem Mp.lt (h : Mp w g L) : g < w.heap.size := (Array.getElem?_eq_some_iff.1 h.1).1
theorem Mp.len (h : Mp w g L) : L.length = 256 := h.2
theorem vals_at (L : List Int) (n : Nat) (hl : n < L.length) : (vals L)[n]? = some (.int .i64 (L.getD n 0)) := by
  simp [vals, List.getD_eq_getElem?_getD, List.getElem?_eq_getElem hl]
theorem Mp.cell (h : Mp w g L) (n : Nat) (hn : n < 256) : w.cell? ⟨g, n, none⟩ = some (.int .i64 (L.getD n 0)) := by
  rw [cell_of_row w g n _ _ _ h.1]
  exact vals_at L n (by rw [h.2]; exact hn)
theorem Mp.frozen (h : Mp w g L) (n : Nat) : w.frozen? ⟨g, n, none⟩ = false := frozen_of_row w g n _ _ h.1
theorem Mp.set (h : Mp w g L) (n : Nat) (v : Int) : Mp (w.setCell ⟨g, n, none⟩ (.int .i64 v)) g (L.set n v) := by
  refine ⟨?_, by rw [List.length_set]; exact h.2⟩
  rw [heap_setCell_same w g n _ 52 _ h.1]
  congr 2
  apply Array.ext_getElem?
  intro i
  simp [vals, Array.getElem?_setIfInBounds, List.getElem?_set]
theorem Mp.grown {row : Option Nat} (h : Mp w g L) (hg : w.grownBy w' row) (hne : some g ≠ row) : Mp w' g L := ⟨(hg.block g h.lt hne).trans h.1, h.2⟩
theorem Mp.below {B : Nat} (h : Mp w g L) (hb : Below B w w') (hg : g < B) : Mp w' g L := ⟨(hb.block g hg).trans h.1, h.2⟩
theorem grown_set (w : World) (a : Addr) (u : Value) : w.grownBy (w.setCell a u) (some a.block) := ⟨rfl, rfl, rfl, by simp [World.setCell], fun i _ hi => heap_setCell_other w a i u (fun e => hi (by rw [e]))⟩
theorem below_grown {B : Nat} {w0 : World} (hb : Below B w0 w) {g : Nat} (hg : w.grownBy w' (some g)) (h : B ≤ g) (h2 : B ≤ w.heap.size) : Below B w0 w' :=
  hb.grown hg h2 (fun j hj => by cases hj; exact h)
end

def Z256 : List Int := List.replicate 256 0
theorem Z256_len : Z256.length = 256 := List.length_replicate
theorem Z256_at (n : Nat) : Z256.getD n 0 = 0 := by
  unfold Z256
  rw [List.getD_eq_getElem?_getD, List.getElem?_replicate]
  split <;> rfl
theorem info52 : (Try.prog.info? 52).map (fun i => (i.zero, i.size)) = some (some (.agg (vals (Z256))), 256) := by kernel_rfl
theorem new_calls (w : World) : Calls Try.prog 11 #[] w fun e w' => e = .returned (.pointer (some ⟨w.heap.size, 0, none⟩)) ∧ Mp w' w.heap.size (Z256) ∧ Below w.heap.size w w' ∧ w'.heap.size = w.heap.size + 1 := by
  have hz := (zero_of_info info52).1
  have hl : (vals (Z256)).size = 256 := by rw [vals_size, Z256_len]
  have hm0 : Mp (w.alloc (.cells (vals (Z256)) 52)) w.heap.size (Z256) := ⟨heap_alloc_new _ _, Z256_len⟩
  have hm := Aside0.mk hm0
  clear hm0
  generalize vals (Z256) = V at *
  go_enter Try.func11, Try.ntmps11
  go_wp2
  go_ret
  exact ⟨rfl, hm.out, (Below.refl _ _).alloc (Nat.le_refl _) _, by simp⟩

set_option maxHeartbeats 400000 in
theorem get_in (g : Nat) (L : List Int) (n : Nat) (w : World) (h : Mp w g L) (h1 : (1 : Int) ≤ n) (h2 : (n : Int) ≤ 255) :
    Calls Try.prog 16 #[.pointer (some ⟨g, 0, none⟩), .int .i64 n] w fun e w' => e = .returned (.int .i64 (L.getD n 0)) ∧ w = w' := by
  have hc := h.cell n (by omega)
  generalize L.getD n 0 = x at *
  go_enter Try.func16, Try.ntmps16
  go_wp2
  go_ret
  exact ⟨rfl, rfl⟩
set_option maxHeartbeats 400000 in
theorem get_out (g : Nat) (n : Int) (w : World) (h : n < 1 ∨ 255 < n) :
    Calls Try.prog 16 #[.pointer (some ⟨g, 0, none⟩), .int .i64 n] w fun e w' => e = .returned (.int .i64 0) ∧ w = w' := by
  rcases h with h | h
  · go_enter Try.func16, Try.ntmps16
    go_wp2
    go_ret
    exact ⟨rfl, rfl⟩
  · have h' : ¬ n < 1 := by omega
    go_enter Try.func16, Try.ntmps16
    go_wp2
    go_ret
    exact ⟨rfl, rfl⟩
/-- A node's sector. -/
def getF (L : List Int) (n : Int) : Int := if 1 ≤ n ∧ n ≤ 255 then L.getD n.toNat 0 else 0
theorem get_calls (g : Nat) (L : List Int) (n : Int) (w : World) (h : Mp w g L) :
    Calls Try.prog 16 #[.pointer (some ⟨g, 0, none⟩), .int .i64 n] w fun e w' => e = .returned (.int .i64 (getF L n)) ∧ w = w' := by
  unfold getF
  by_cases hn : 1 ≤ n ∧ n ≤ 255
  · rw [if_pos hn]
    obtain ⟨m, rfl⟩ := Int.eq_ofNat_of_zero_le (show 0 ≤ n by omega)
    rw [Int.toNat_natCast]
    exact get_in g L m w h hn.1 hn.2
  · rw [if_neg hn]
    exact get_out g n w (by omega)

set_option maxHeartbeats 400000 in
theorem set_in (g : Nat) (L : List Int) (n : Nat) (s : Int) (w : World) (h : Mp w g L) (h1 : (1 : Int) ≤ n) (h2 : (n : Int) ≤ 255) (h3 : 0 ≤ s) (h4 : s < 16384) :
    Calls Try.prog 15 #[.pointer (some ⟨g, 0, none⟩), .int .i64 n, .int .i64 s] w fun e w' => e = .returned (.bool true) ∧ Mp w' g (L.set n s) ∧ w.grownBy w' (some g) := by
  have hc := h.cell n (by omega)
  have hf := h.frozen n
  have d1 : decide (s < 0) = false := decide_eq_false (by omega)
  have d2 : decide (16384 ≤ s) = false := decide_eq_false (by omega)
  have hm := h.set n s
  have hg : w.grownBy (w.setCell ⟨g, n, none⟩ (.int .i64 s)) (some g) := grown_set _ _ _
  generalize L.getD n 0 = x at *
  have hm := Aside0.mk hm
  go_enter Try.func15, Try.ntmps15
  go_wp2
  go_ret
  exact ⟨rfl, hm.out, hg⟩
set_option maxHeartbeats 400000 in
theorem set_out (g : Nat) (n s : Int) (w : World) (h : (n < 1 ∨ 255 < n) ∨ s < 0 ∨ 16384 ≤ s) :
    Calls Try.prog 15 #[.pointer (some ⟨g, 0, none⟩), .int .i64 n, .int .i64 s] w fun e w' => e = .returned (.bool false) ∧ w = w' := by
  by_cases h1 : n < 1
  · clear h
    go_enter Try.func15, Try.ntmps15
    go_wp2
    go_ret
    exact ⟨rfl, rfl⟩
  · by_cases h2 : 255 < n
    · clear h
      go_enter Try.func15, Try.ntmps15
      go_wp2
      go_ret
      exact ⟨rfl, rfl⟩
    · by_cases h3 : s < 0
      · clear h
        have d1 : decide (s < 0) = true := decide_eq_true (by omega)
        go_enter Try.func15, Try.ntmps15
        go_wp2
        go_ret
        exact ⟨rfl, rfl⟩
      · have d1 : decide (s < 0) = false := decide_eq_false (by omega)
        have d2 : decide (16384 ≤ s) = true := decide_eq_true (by omega)
        clear h
        go_enter Try.func15, Try.ntmps15
        go_wp2
        go_ret
        exact ⟨rfl, rfl⟩

/-- r is the least node that there is not (0: there are all). -/
def FirstIs (L : List Int) (r : Nat) : Prop := (1 ≤ r ∧ r ≤ 255 ∧ L.getD r 0 = 0 ∧ ∀ j, 1 ≤ j → j < r → L.getD j 0 ≠ 0) ∨ (r = 0 ∧ ∀ j, 1 ≤ j → j ≤ 255 → L.getD j 0 ≠ 0)
theorem first_exists (L : List Int) : ∃ r, FirstIs L r := by
  have key : ∀ n, n ≤ 255 → (∃ r, 1 ≤ r ∧ r ≤ n ∧ L.getD r 0 = 0 ∧ ∀ j, 1 ≤ j → j < r → L.getD j 0 ≠ 0) ∨ (∀ j, 1 ≤ j → j ≤ n → L.getD j 0 ≠ 0) := by
    intro n
    induction n with
    | zero => intro _; exact Or.inr (fun j h1 h2 => by omega)
    | succ n ih =>
      intro hn
      rcases ih (by omega) with ⟨r, h1, h2, h3, h4⟩ | h
      · exact Or.inl ⟨r, h1, by omega, h3, h4⟩
      · by_cases hz : L.getD (n + 1) 0 = 0
        · exact Or.inl ⟨n + 1, by omega, by omega, hz, fun j h1 h2 => h j h1 (by omega)⟩
        · refine Or.inr (fun j h1 h2 => ?_)
          by_cases e : j = n + 1
          · rw [e]; exact hz
          · exact h j h1 (by omega)
  rcases key 255 (Nat.le_refl _) with ⟨r, h1, h2, h3, h4⟩ | h
  · exact ⟨r, Or.inl ⟨h1, h2, h3, h4⟩⟩
  · exact ⟨0, Or.inr ⟨rfl, h⟩⟩

set_option maxHeartbeats 1000000 in
theorem first_calls (g : Nat) (L : List Int) (r : Nat) (w : World) (h : Mp w g L) (hr : FirstIs L r) :
    Calls Try.prog 14 #[.pointer (some ⟨g, 0, none⟩)] w fun e w' => e = .returned (.int .i64 r) ∧ w = w' := by
  have HM := Aside0.mk h
  have HR := Aside0.mk hr
  clear h hr
  go_enter Try.func14, Try.ntmps14
  go_wp2
  go_loop [3] (fun i => ∃ k : Nat, i = .int .i64 k ∧ 1 ≤ k ∧ k ≤ 256 ∧ (r = 0 ∨ k ≤ r)) (fun i => 256 - (intOf i).toNat)
  case atStart => exact ⟨1, rfl, by omega, by omega, by rcases HR.out with h | h <;> omega⟩
  case round =>
    obtain ⟨k, rfl, hk1, hk2, hkr⟩ := hrel
    by_cases hlt : k ≤ 255
    · have hc := HM.out.cell k (by omega)
      have d1 : decide ((k : Int) ≤ 255) = true := decide_eq_true (by omega)
      by_cases hz : L.getD k 0 = 0
      · have hkr2 : k = r := by
          rcases HR.out with ⟨h1, h2, h3, h4⟩ | ⟨h1, h2⟩
          · rcases hkr with h | h
            · omega
            · by_cases e : k < r
              · exact absurd hz (h4 k hk1 e)
              · omega
          · exact absurd hz (h2 k hk1 hlt)
        rw [hz] at hc
        clear hz hkr
        subst hkr2
        go_wp2
        go_ret
        exact ⟨rfl, rfl⟩
      · have hb : (L.getD k 0 == 0) = false := beq_eq_false_iff_ne.2 hz
        have hkr2 : r = 0 ∨ k + 1 ≤ r := by
          rcases hkr with h | h
          · exact Or.inl h
          · rcases HR.out with ⟨h1, h2, h3, h4⟩ | ⟨h1, h2⟩
            · by_cases e : k = r
              · rw [e] at hz; exact absurd h3 hz
              · omega
            · exact Or.inl h1
        generalize L.getD k 0 = x at *
        clear hkr
        go_wp2
        go_round
        case rel => exact ⟨k + 1, by go_num, by omega, by omega, hkr2⟩
        case measure => simp only [intOf]; (try rw [w64 (by omega) (by omega)]); omega
    · have d1 : decide ((k : Int) ≤ 255) = false := decide_eq_false (by omega)
      have hr0 : r = 0 := by
        rcases HR.out with ⟨h1, h2, h3, h4⟩ | ⟨h1, h2⟩
        · rcases hkr with h | h <;> omega
        · exact h1
      go_wp2
      go_ret
      subst hr0; exact ⟨rfl, rfl⟩

theorem run_index_arr {P : Program} (w : World) (t e : TypeId) (n : Nat) (cs : Array Value) (k : IntKind) (i : Nat) (v : Value) (ht : P.underlying t = some (.array n e)) (ha : (isAgg e).run P w = .ok false w) (hs : (sizeOf e).run P w = .ok 1 w) (hi : i < n) (hv : cs[i]? = some v) :
    (Instr.index t (.agg cs) (.int k i)).run P w = .ok v w := by
  have h1 : (i : Int) < (n : Int) := by omega
  simp [Instr.index, part, run_underlying ht, asIntOf, ha, hs, hi, hv, h1, Result.andThen]
theorem isAgg3 (w : World) : (isAgg 3).run Try.prog w = .ok false w := by kernel_rfl
theorem size3 (w : World) : (sizeOf 3).run Try.prog w = .ok 1 w := by kernel_rfl

/-- The nodes below k that there are. -/
def nodesTo (L : List Int) (k : Nat) : List Int := ((List.range k).filter fun n => 0 < L.getD n 0).map Int.ofNat
theorem nodesTo_succ (L : List Int) (k : Nat) : nodesTo L (k + 1) = nodesTo L k ++ if 0 < L.getD k 0 then [(k : Int)] else [] := by
  unfold nodesTo
  rw [List.range_succ, List.filter_append, List.map_append]
  congr 1
  by_cases h : 0 < L.getD k 0
  · rw [if_pos h]; simp only [List.filter_cons, List.filter_nil, decide_eq_true h, if_true]; rfl
  · rw [if_neg h]; simp only [List.filter_cons, List.filter_nil, decide_eq_false h]; rfl
theorem nodesTo_le (L : List Int) (k : Nat) : (nodesTo L k).length ≤ k := by
  unfold nodesTo
  rw [List.length_map]
  refine Nat.le_trans (List.length_filter_le _ _) ?_
  simp

set_option maxHeartbeats 2000000 in
set_option maxRecDepth 100000 in
theorem nodes_calls (g : Nat) (L : List Int) (w : World) (h : Mp w g L) :
    Calls Try.prog 17 #[.pointer (some ⟨g, 0, none⟩)] w fun e w' => ∃ v0_ : Value, e = .returned v0_ ∧ Kd.R (Kd.int .i64) 3 w' w.heap.size (fun _ => True) v0_ (nodesTo L 256) ∧ Below w.heap.size w w' := by
  have HM := Aside0.mk h
  clear h
  have hidx : ∀ (W : World) (k : Nat), k < 256 → (Instr.index 41 (.agg (vals L)) (.int .i64 k)).run Try.prog W = .ok (.int .i64 (L.getD k 0)) W := fun W k hk =>
    run_index_arr W 41 3 256 (vals L) .i64 k _ Try.underlying41 (isAgg3 W) (size3 W) hk (vals_at L k (by rw [HM.out.2]; exact hk))
  have HI := Aside0.mk hidx
  clear hidx
  go_enter Try.func17, Try.ntmps17
  go_wp2_with (first
    | (refine wpList_load_row rfl 41 _ rfl g rfl 52 (vals L) (0, 0) _ HM.out.1 Try.underlying41 rfl (by rw [vals_size, HM.out.2]; kernel_rfl) ?_)
    | go_in)
  obtain ⟨V, hV⟩ : ∃ V, vals L = V := ⟨_, rfl⟩
  have HV := Aside0.mk hV
  rw [hV]
  clear hV
  go_loopw [3, 10] (fun v i wr => ∃ k : Nat, k ≤ 256 ∧ i = .int .i64 k ∧ Kd.R (Kd.int .i64) 3 wr w.heap.size (fun _ => True) v (nodesTo L k) ∧ Below w.heap.size w wr)
    (fun _ i _ => 256 - (intOf i).toNat)
  case atStart => exact ⟨0, Nat.zero_le _, rfl, Kd.R_nil _ _ _ _ _, Below.refl _ _⟩
  case round =>
    obtain ⟨k, hk, rfl, HO, HB⟩ := hrel
    by_cases hlt : k < 256
    · have c1 : decide ((k : Int) < 256) = true := decide_eq_true (by omega)
      have hx := fun W : World => HI.out W k hlt
      rw [HV.out] at hx
      have hst := nodesTo_succ L k
      have hle := nodesTo_le L k
      generalize L.getD k 0 = x at *
      by_cases hp : 0 < x
      · rw [if_pos hp] at hst
        have c2 : decide (0 < x) = true := decide_eq_true hp
        go_wp2_with (first
          | ((with_reducible refine gate_builtin (b := .append) (xs := #[.tmp 16, .tmp 18]) rfl ?_); at_builtin; refine Kd.R_append (Kd.int .i64) (w0 := w) w.heap.size rfl (.tmp 16) (.tmp 18) 22 3 (.int .i64 0) 8 rfl Try.underlying22 info3 rfl (by decide) (by omega) _ (nodesTo L k) (k : Int) [.int .i64 k] (fun _ => True) (fun _ => False) rfl rfl ?aP (fun _ hk => hk.elim) ?aF HO HB ?aS ?aL ?_; (case aP => exact rfl); (case aF => intro j hj; trivial); (case aS => exact HB.size); (case aL => omega); intro v111 w14 ho hb hg hat)
          | go_in)
        go_roundw
        case rel => exact ⟨k + 1, by omega, by go_num, hst.symm ▸ ho, hb⟩
        case measure => simp only [intOf]; (try rw [w64 (by omega) (by omega)]); omega
      · rw [if_neg hp, List.append_nil] at hst
        have c2 : decide (0 < x) = false := decide_eq_false hp
        go_wp2
        go_roundw
        case rel => exact ⟨k + 1, by omega, by go_num, hst.symm ▸ HO, HB⟩
        case measure => simp only [intOf]; (try rw [w64 (by omega) (by omega)]); omega
    · have c1 : decide ((k : Int) < 256) = false := decide_eq_false (by omega)
      obtain rfl : k = 256 := by omega
      go_wp2
      go_ret
      exact ⟨_, rfl, HO, HB⟩
end Go.Proofs.Ytbdghlneiblkcaa.Imap
