/- caps.Table: the contracts of Opens, New and House. -/
import Derived.Test.YtkdjjkcoonlddaaCapsB
import Derived.Deep.WholeRow
namespace Go.Proofs.Ytkdjjkcoonlddaa.Caps
open Go.RowKit Go.Maps Go.Proofs.YtkdjjkcoonlddaaW.PrintWords Go.Proofs.YtkdjjkcoonlddaaW.PrintLast Go.Proofs.YtkdjjkcoonlddaaW.PrintMore
open Go.Proofs.Ytkdjjkcoonlddaa.Aid
set_option linter.unusedVariables false
set_option linter.unusedSimpArgs false

/-- How many are open for a node. -/
def opensF (S : List H3) (n : Int) : Nat := (S.filter fun p => p.2.1 == n).length
/-- .. of those that are left. -/
def leftN (S : List H3) (left : Lit → Bool) (n : Int) : Nat := (S.filter fun p => left (.int .i64 p.1) && (p.2.1 == n)).length
theorem left_all (S : List H3) (left : Lit → Bool) (n : Int) (h : ∀ p ∈ S, left (.int .i64 p.1) = true) : leftN S left n = opensF S n := by
  unfold leftN opensF
  rw [List.filter_congr (fun p hp => by rw [h p hp, Bool.true_and])]
theorem left_none (S : List H3) (left : Lit → Bool) (n : Int) (h : ∀ kl, left kl = false) : leftN S left n = 0 := by
  unfold leftN
  rw [List.filter_congr (q := fun _ => false) (fun p hp => by rw [h, Bool.false_and])]
  simp
theorem sameKey_int (x y : Int) : (Lit.int .i64 x).sameKey (Lit.int .i64 y) = (x == y) := by
  by_cases h : x = y
  · subst h; rw [WideAt.sameKey_self (isKey x)]; simp
  · rw [sameKey_ne (lit_ne h)]; simp [h]
theorem left_step : ∀ (S : List H3) (left : Lit → Bool) (n h : Int) (p : H3), (S.map (·.1)).Nodup → lookH S h = some p → left (.int .i64 h) = true →
    leftN S (fun z => left z && !z.sameKey (.int .i64 h)) n + (if p.2.1 = n then 1 else 0) = leftN S left n
  | [], left, n, h, p, _, hl, _ => by simp [lookH] at hl
  | q :: t, left, n, h, p, hn, hl, hlh => by
    rw [List.map_cons, List.nodup_cons] at hn
    unfold leftN
    by_cases e : q.1 = h
    · have h1 : (q.1 == h) = true := beq_iff_eq.2 e
      have hq : q = p := by
        unfold lookH at hl
        rw [List.find?_cons, h1] at hl
        exact Option.some.inj hl
      subst hq
      have ht : (t.filter fun p => (left (.int .i64 p.1) && !(Lit.int .i64 p.1).sameKey (.int .i64 h)) && (p.2.1 == n)) = t.filter fun p => left (.int .i64 p.1) && (p.2.1 == n) := by
        apply List.filter_congr
        intro x hx
        have hne : x.1 ≠ h := fun e2 => hn.1 (by rw [e, ← e2]; exact List.mem_map.2 ⟨x, hx, rfl⟩)
        rw [sameKey_int, beq_eq_false_iff_ne.2 hne, Bool.not_false, Bool.and_true]
      rw [List.filter_cons_of_neg (by simp [sameKey_int, e]), ht]
      by_cases e2 : q.2.1 = n
      · rw [if_pos e2, List.filter_cons_of_pos (by simp [e, hlh, e2]), List.length_cons]
      · rw [if_neg e2, List.filter_cons_of_neg (by simp [e2])]; rfl
    · have h1 : (q.1 == h) = false := beq_eq_false_iff_ne.2 e
      have hl2 : lookH t h = some p := by
        unfold lookH at hl ⊢
        rw [List.find?_cons, h1] at hl
        exact hl
      have ih := left_step t left n h p hn.2 hl2 hlh
      unfold leftN at ih
      by_cases e2 : (left (.int .i64 q.1) && (q.2.1 == n)) = true
      · rw [List.filter_cons_of_pos (by simp only [sameKey_int, h1, Bool.not_false, Bool.and_true]; exact e2), List.filter_cons_of_pos (p := fun p : H3 => left (.int .i64 p.1) && (p.2.1 == n)) e2, List.length_cons, List.length_cons]; omega
      · rw [List.filter_cons_of_neg (by simp only [sameKey_int, h1, Bool.not_false, Bool.and_true]; exact e2), List.filter_cons_of_neg (p := fun p : H3 => left (.int .i64 p.1) && (p.2.1 == n)) e2]; exact ih
theorem opens_le (S : List H3) (n : Int) : opensF S n ≤ S.length := List.length_filter_le _ _
theorem left_le (S : List H3) (left : Lit → Bool) (n : Int) : leftN S left n ≤ S.length := List.length_filter_le _ _

set_option maxHeartbeats 2000000 in
set_option maxRecDepth 100000 in
theorem opens_calls (g b : Nat) (F last : Int) (S : List H3) (n : Int) (w : World) (ht : Tab w g b F last S) (hlen : S.length ≤ 100) :
    Calls Try.prog 30 #[.pointer (some ⟨g, 0, none⟩), .int .i64 n] w fun e w' => e = .returned (.int .i64 (opensF S n : Int)) ∧ Below w.heap.size w w' := by
  obtain ⟨D, hD, r⟩ := ht.rep
  have hc : w.cell? ⟨g, 2, none⟩ = some (.map (some b)) := by rw [cell_of_row w g 2 _ _ _ ht.blk]; rfl
  have HD := Aside0.mk hD
  have HR := Aside0.mk r
  have hstart := left_all S (Maps.has D) n (fun p hp => by
    rw [r.has_]
    cases hl : lookH S p.1 with
    | none => exact absurd rfl (look_none_inv hl p hp)
    | some q => rfl)
  have HST := Aside0.mk hstart
  have hble := ht.blt
  clear ht hD r hstart
  go_enter Try.func30, Try.ntmps30
  go_wp2_with (first
    | (at_range; refine wpList_range_own _ rfl _ 78 rfl 3 82 key3 Try.underlying78 holdR b S.length D rfl HD.out ?_; intro w0 hrg0 hg0 hs0)
    | go_in)
  go_frame
  have HB0 : Below w.heap.size w w0 := ⟨hg0.os, hg0.tape, hg0.output, hg0.size, fun i hi => hg0.block i hi (by simp)⟩
  have hsz := HR.out.size_
  obtain ⟨rr, hrr⟩ : ∃ rr, w.heap.size = rr := ⟨_, rfl⟩
  have hrb : rr ≠ b := by omega
  have HRR := Aside0.mk hrr
  have HRG0 := Aside0.mk hrg0
  rw [hrr] at HB0 HRG0 ⊢
  clear hrr hg0 hs0 hrg0
  go_loopw [5] (fun v wr => ∃ (c : Nat) (left : Lit → Bool) (cnt : Nat), v = .int .i64 c ∧ Aside0 (wr.ranges Try.prog 3 holdR b rr S.length D left cnt) ∧ Aside0 (c + leftN S left n = opensF S n) ∧ Below rr w wr)
    (fun _ wr => wr.rangeLeft b rr)
  case atStart => exact ⟨0, _, _, rfl, HRG0, ⟨by rw [HST.out]; omega⟩, HB0⟩
  case round =>
    obtain ⟨c, left, cnt, rfl, HRG, HC, HB⟩ := hrel
    have hcb : c ≤ 100 := by have := HC.out; have := opens_le S n; omega
    go_wp2_with (first
      | (at_next; refine wpList_next_ranges _ rfl _ rfl 3 key3 holdR (Value.int .i64) (fun p : Int × Int => .agg #[.int .i64 p.1, .int .i64 p.2]) (fun key kl hkey => by obtain ⟨x, rfl, _⟩ := Maps.keyOf_int_inv Try.underlying3 hkey; exact ⟨x, rfl⟩) (fun v y hv => by obtain ⟨p, q, rfl, _⟩ := holdR_inv hv; exact ⟨(p, q), rfl⟩) b rr S.length D left cnt rfl HRG.out ?_ ?_)
      | go_in)
    · intro _ hl0
      have hz := left_none S left n hl0
      have HZ := HC.out
      rw [hz, Nat.add_zero] at HZ
      have HZ2 := Aside0.mk HZ
      clear HZ hz hl0
      go_wp2
      go_ret
      refine ⟨?_, by rw [HRR.out]; exact HB⟩
      rw [← HZ2.out]; rfl
    · intro x c1 c2 kl y1 y2 w1 cnt1 hkey hleft hR hat hrg1 hlt hg1 hs1 hen
      obtain ⟨x', ex, rfl, hwx⟩ := Maps.keyOf_int_inv Try.underlying3 hkey
      cases ex
      have hy : y1 = hd c1 c2 := by
        have h2 := (holdR_mk c1 c2).symm.trans hR
        injection h2 with h2
        injection h2 with h2 _
        exact h2.symm
      have hlook : ∃ p, lookH S x = some p ∧ p.2.1 = c1 := by
        cases hl : lookH S x with
        | none =>
          have e1 := fun z => (HR.out.at_ x z).symm.trans (hat z)
          rw [hl] at e1
          have e2 := (e1 .nil).trans (e1 (.lit (.bool true))).symm
          cases e2
        | some p =>
          have e1 := (HR.out.at_ x .nil).symm.trans (hat .nil)
          rw [hl, hy] at e1
          exact ⟨p, rfl, (hd_inj e1).1⟩
      obtain ⟨p, hlk, hp⟩ := hlook
      have hst := left_step S left n x p HR.out.nodup hlk hleft
      rw [hp] at hst
      have HST2 := Aside0.mk hst
      have HB1 : Below rr w w1 := HB.grown hg1 (by have h1 := HB.size; rw [HRR.out] at h1; exact h1) (fun j hj => by cases hj; exact Nat.le_refl _)
      have HRG1 := Aside0.mk hrg1
      have HB1s : rr ≤ w1.heap.size := by have h1 := HB1.size; rw [HRR.out] at h1; exact h1
      have HRL : Aside0 (wr.rangeLeft b rr = cnt) := ⟨HRG.out.left_eq⟩
      clear hst hp hlk hy hat hR hkey hleft hwx hrg1 hg1 hs1 HRG HB
      by_cases hq : c1 = n
      · have hb1 : (c1 == n) = true := beq_iff_eq.2 hq
        rw [if_pos hq] at HST2
        clear hq
        go_wp2
        go_roundw
        case rel => exact ⟨c + 1, _, cnt1, by go_num, ⟨HRG1.out.alloc _⟩, ⟨by have h1 := HC.out; have h2 := HST2.out; omega⟩, HB1.alloc HB1s _⟩
        case measure =>
          rw [(HRG1.out.alloc _).left_eq, HRL.out]; exact hlt
      · have hb1 : (c1 == n) = false := beq_eq_false_iff_ne.2 hq
        rw [if_neg hq, Nat.add_zero] at HST2
        clear hq
        go_wp2
        go_roundw
        case rel => exact ⟨c, _, cnt1, rfl, ⟨HRG1.out.alloc _⟩, ⟨by have h1 := HC.out; have h2 := HST2.out; omega⟩, HB1.alloc HB1s _⟩
        case measure =>
          rw [(HRG1.out.alloc _).left_eq, HRL.out]; exact hlt

/-- What all handles of a table begin with. -/
def frontF (a b c : Int) : Int := a * 4503599627370496 + b * 68719476736 + c * 65536
set_option maxHeartbeats 1000000 in
theorem new_calls (a b c : Int) (w : World) (a0 : 0 ≤ a) (a1 : a ≤ 16) (b0 : 0 ≤ b) (b1 : b ≤ 65535) (c0 : 0 ≤ c) (c1 : c ≤ 1048575) :
    Calls Try.prog 23 #[.int .i64 a, .int .i64 b, .int .i64 c] w fun e w' => e = .returned (.pointer (some ⟨w.heap.size + 1, 0, none⟩)) ∧ Tab w' (w.heap.size + 1) w.heap.size (frontF a b c) 0 [] ∧ Below w.heap.size w w' := by
  have hmm := @run_makeMap Try.prog
  go_enter Try.func23, Try.ntmps23
  go_wp2
  go_ret
  refine ⟨rfl, ⟨?_, ⟨_, ?_, rep_empty⟩, by omega⟩, ((Below.refl _ _).alloc (Nat.le_refl _) _).alloc (by simp) _⟩
  · unfold frontF
    have h := heap_alloc_last (w.alloc (Obj.map #[] 0)) (Obj.cells #[.int .i64 (a * 4503599627370496 + b * 68719476736 + c * 65536), .int .i64 0, .map (some w.heap.size)] 80)
    have e : (w.alloc (Obj.map #[] 0)).heap.size = w.heap.size + 1 := by simp
    rw [e] at h
    exact h
  · exact (World.ownsMap_made _ _ _ _).alloc _

/-- The house of a handle. -/
def houseF (h : Int) : Int := if 1 ≤ h / 4503599627370496 ∧ h / 4503599627370496 ≤ 16 then h / 4503599627370496 else 0
set_option maxHeartbeats 1000000 in
theorem house_calls (h : Int) (w : World) (hw : (Lit.int .i64 h).wf = true) :
    Calls Try.prog 25 #[.int .i64 h] w fun e w' => e = .returned (.int .i64 (houseF h)) ∧ w = w' := by
  obtain ⟨h0, h1⟩ := wf_bd hw
  unfold houseF
  clear hw
  by_cases c1 : 1 ≤ h / 4503599627370496
  · by_cases c2 : h / 4503599627370496 ≤ 16
    · rw [if_pos ⟨c1, c2⟩]
      go_enter Try.func25, Try.ntmps25
      go_wp2
      go_ret
      exact ⟨rfl, rfl⟩
    · rw [if_neg (fun h => c2 h.2)]
      go_enter Try.func25, Try.ntmps25
      go_wp2
      go_ret
      exact ⟨rfl, rfl⟩
  · rw [if_neg (fun h => c1 h.1)]
    go_enter Try.func25, Try.ntmps25
    go_wp2
    go_ret
    exact ⟨rfl, rfl⟩
end Go.Proofs.Ytkdjjkcoonlddaa.Caps
