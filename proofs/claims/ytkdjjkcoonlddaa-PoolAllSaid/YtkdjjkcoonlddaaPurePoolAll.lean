/- PoolAll, the plain law: at few houses the program's free segments are the document's. -/
import Derived.Test.YtkdjjkcoonlddaaPPoolx8
import Derived.Test.YtkdjjkcoonlddaaPoolPlain
import Derived.Test.YtkdjjkcoonlddaaSized
namespace Go.Proofs.Ytkdjjkcoonlddaa.Pure
open Go.RowKit Go.Proofs.Ytkdjjkcoonlddaa.PPool Go.Proofs.YtkdjjkcoonlddaaW.PrintWords Go.Proofs.YtkdjjkcoonlddaaW.PrintLast Go.Proofs.YtkdjjkcoonlddaaW.PrintMore
open Go.Proofs.Ytkdjjkcoonlddaa.Aid
set_option linter.unusedVariables false
set_option linter.unusedSimpArgs false
namespace Pa

theorem rd36 (l : List S36) (i : Nat) (h : i < l.length) : rd_T36 l (i : Int) = l[i] := by
  unfold rd_T36
  rw [Int.toNat_natCast, List.getD_eq_getElem?_getD, List.getElem?_eq_getElem h]; rfl
theorem rdi (l : List Int) (i : Nat) (h : i < l.length) : rd l (i : Int) = l[i] := by
  unfold rd
  rw [Int.toNat_natCast, List.getD_eq_getElem?_getD, List.getElem?_eq_getElem h]; rfl

/-- Few houses, of few segments. -/
def Few (l : List S36) (i : Nat) : Prop := l.length ≤ 20 ∧ ∀ j, i ≤ j → (h : j < l.length) → (l[j]).f3.length ≤ 60

theorem few_fin (l : List S36) (i : Int) : ∀ k, 1 ≤ k → beguinagelaw12_few.j1 k l i false = some (decide ((l.length : Int) ≤ 20)) := by
  intro k hk
  obtain ⟨k, rfl⟩ : ∃ m, k = m + 1 := ⟨k - 1, by omega⟩
  rw [beguinagelaw12_few.j1, if_neg Bool.false_ne_true]
theorem few_at (l : List S36) (d : Nat) : ∀ i : Nat, i + d = 20 → ∃ b, (b = true → Few l i) ∧ ∃ K, ∀ k, K ≤ k → beguinagelaw12_few.l0 k l (i : Int) = some b := by
  induction d with
  | zero =>
    intro i hi
    refine ⟨decide ((l.length : Int) ≤ 20), fun h => ?_, 2, fun k hk => ?_⟩
    · have := of_decide_eq_true h
      exact ⟨by omega, fun j h1 h2 => by omega⟩
    · obtain ⟨k, rfl⟩ : ∃ m, k = m + 1 := ⟨k - 1, by omega⟩
      rw [beguinagelaw12_few.l0, decide_eq_false (by omega)]
      split <;> exact few_fin l i k (by omega)
  | succ d ih =>
    intro i hi
    by_cases hlt : (i : Int) < (l.length : Int)
    · have hl : i < l.length := by omega
      have c1 : (i : Int) < 20 := by omega
      have c2 : 0 ≤ (i : Int) := by omega
      have hw : Aside0 (wrap64 ((i : Int) + 1) = ((i + 1 : Nat) : Int)) := Aside0.mk (by rw [w64 (by omega) (by omega)]; rfl)
      by_cases h60 : (((l[i]).f3.length : Nat) : Int) > 60
      · refine ⟨false, fun h => (by cases h), 2, fun k hk => ?_⟩
        obtain ⟨k, rfl⟩ : ∃ m, k = m + 1 + 1 := ⟨k - 2, by omega⟩
        rw [beguinagelaw12_few.l0, if_pos hlt, decide_eq_true c1, beguinagelaw12_few.j1, if_pos rfl, if_pos c2, if_pos hlt, rd36 l i hl, if_pos h60]
      · obtain ⟨b, hb, K, hK⟩ := ih (i + 1) (by omega)
        refine ⟨b, fun h => ?_, K + 2, fun k hk => ?_⟩
        · obtain ⟨h1, h2⟩ := hb h
          refine ⟨h1, fun j hj hjl => ?_⟩
          by_cases e : j = i
          · subst e; omega
          · exact h2 j (by omega) hjl
        · obtain ⟨k, rfl⟩ : ∃ m, k = m + 1 + 1 := ⟨k - 2, by omega⟩
          rw [beguinagelaw12_few.l0, if_pos hlt, decide_eq_true c1, beguinagelaw12_few.j1, if_pos rfl, if_pos c2, if_pos hlt, rd36 l i hl, if_neg h60, hw.out]
          exact hK k (by omega)
    · refine ⟨decide ((l.length : Int) ≤ 20), fun h => ?_, 2, fun k hk => ?_⟩
      · have := of_decide_eq_true h
        exact ⟨by omega, fun j h1 h2 => by omega⟩
      · obtain ⟨k, rfl⟩ : ∃ m, k = m + 1 := ⟨k - 1, by omega⟩
        rw [beguinagelaw12_few.l0, if_neg hlt]
        exact few_fin l i k (by omega)

/-- Is s among them? -/
def hasS (xs : List Int) (s : Int) : Bool := xs.any (· == s)
def hasH (l : List S36) (s : Int) : Bool := l.any fun h => hasS h.f3 s
theorem hasH_segs (l : List S36) (s : Int) : hasH l s = (segsOf l).contains s := by
  unfold hasH hasS segsOf
  rw [Bool.eq_iff_iff, List.contains_iff_mem, List.any_eq_true, List.mem_flatMap]
  constructor
  · rintro ⟨h, hm, h2⟩
    obtain ⟨x, hx, e⟩ := List.any_eq_true.1 h2
    obtain rfl := beq_iff_eq.1 e
    exact ⟨h, hm, hx⟩
  · rintro ⟨h, hm, h2⟩
    exact ⟨h, hm, List.any_eq_true.2 ⟨s, h2, beq_self_eq_true s⟩⟩

theorem ref2 (l : List S36) (x0 : Int) (x5 : List Int) (s : Int) (i : Nat) (hi : i < l.length) (hf : (l[i]).f3.length ≤ 60) (R : Option (List Int)) (d : Nat) : ∀ (j : Nat) (flag : Bool), j + d = (l[i]).f3.length →
    (∃ K, ∀ k, K ≤ k → beguinageref12_Free.l1 k x0 l x5 s (flag || hasS ((l[i]).f3.drop j) s) (wrap64 ((i : Int) + 1)) = R) →
    ∃ K, ∀ k, K ≤ k → beguinageref12_Free.l2 k x0 l x5 s flag (i : Int) (j : Int) = R := by
  have c1 : 0 ≤ (i : Int) := by omega
  have c2 : (i : Int) < (l.length : Int) := by omega
  induction d with
  | zero =>
    intro j flag hj ⟨K, hK⟩
    refine ⟨K + 1, fun k hk => ?_⟩
    obtain ⟨k, rfl⟩ : ∃ m, k = m + 1 := ⟨k - 1, by omega⟩
    have h0 : (flag || hasS ((l[i]).f3.drop j) s) = flag := by
      rw [List.drop_eq_nil_of_le (by omega)]; unfold hasS; simp
    rw [h0] at hK
    rw [beguinageref12_Free.l2, if_pos c1, if_pos c2, rd36 l i hi, if_neg (by omega)]
    exact hK k (by omega)
  | succ d ih =>
    intro j flag hj ⟨K, hK⟩
    have hjl : j < (l[i]).f3.length := by omega
    have hdrop : hasS ((l[i]).f3.drop j) s = (((l[i]).f3[j] == s) || hasS ((l[i]).f3.drop (j + 1)) s) := by
      unfold hasS
      rw [List.drop_eq_getElem_cons hjl, List.any_cons]
    rw [hdrop] at hK
    have c3 : (j : Int) < (((l[i]).f3.length : Nat) : Int) := by omega
    have c4 : 0 ≤ (j : Int) := by omega
    have hw : Aside0 (wrap64 ((j : Int) + 1) = ((j + 1 : Nat) : Int)) := Aside0.mk (by rw [w64 (by omega) (by omega)]; rfl)
    cases flag with
    | true =>
      rw [Bool.true_or] at hK
      obtain ⟨K2, hK2⟩ := ih (j + 1) true (by omega) ⟨K, by rw [Bool.true_or]; exact hK⟩
      refine ⟨K2 + 1, fun k hk => ?_⟩
      obtain ⟨k, rfl⟩ : ∃ m, k = m + 1 := ⟨k - 1, by omega⟩
      rw [beguinageref12_Free.l2, if_pos c1, if_pos c2, rd36 l i hi, if_pos c3, if_pos rfl, hw.out]
      exact hK2 k (by omega)
    | false =>
      rw [Bool.false_or] at hK
      obtain ⟨K2, hK2⟩ := ih (j + 1) ((l[i]).f3[j] == s) (by omega) ⟨K, hK⟩
      refine ⟨K2 + 1, fun k hk => ?_⟩
      obtain ⟨k, rfl⟩ : ∃ m, k = m + 1 := ⟨k - 1, by omega⟩
      rw [beguinageref12_Free.l2, if_pos c1, if_pos c2, rd36 l i hi, if_pos c3, if_neg Bool.false_ne_true, if_pos c4, rdi _ j hjl, hw.out]
      exact hK2 k (by omega)

theorem ref1 (l : List S36) (hl : Few l 0) (x0 : Int) (x5 : List Int) (hx5 : x5.length < 17592186044416) (s : Int) (R : Option (List Int)) (d : Nat) : ∀ (i : Nat) (flag : Bool), i + d = l.length →
    (∃ K, ∀ k, K ≤ k → beguinageref12_Free.l0 k x0 l (if (flag || hasH (l.drop i) s) = true then x5 else x5 ++ [s]) (wrap64 (s + 1)) = R) →
    ∃ K, ∀ k, K ≤ k → beguinageref12_Free.l1 k x0 l x5 s flag (i : Int) = R := by
  have hlen := hl.1
  induction d with
  | zero =>
    intro i flag hi ⟨K, hK⟩
    refine ⟨K + 1, fun k hk => ?_⟩
    obtain ⟨k, rfl⟩ : ∃ m, k = m + 1 := ⟨k - 1, by omega⟩
    have h0 : (flag || hasH (l.drop i) s) = flag := by
      rw [List.drop_eq_nil_of_le (by omega)]; unfold hasH; simp
    rw [h0] at hK
    rw [beguinageref12_Free.l1, if_neg (by omega)]
    cases flag with
    | true => rw [if_pos rfl]; rw [if_pos rfl] at hK; exact hK k (by omega)
    | false => rw [if_neg Bool.false_ne_true, if_pos hx5]; rw [if_neg Bool.false_ne_true] at hK; exact hK k (by omega)
  | succ d ih =>
    intro i flag hi ⟨K, hK⟩
    have hil : i < l.length := by omega
    have hdrop : hasH (l.drop i) s = (hasS (l[i]).f3 s || hasH (l.drop (i + 1)) s) := by
      unfold hasH
      rw [List.drop_eq_getElem_cons hil, List.any_cons]
    rw [hdrop, ← Bool.or_assoc] at hK
    obtain ⟨K2, hK2⟩ := ih (i + 1) (flag || hasS (l[i]).f3 s) (by omega) ⟨K, hK⟩
    have hw : wrap64 ((i : Int) + 1) = ((i + 1 : Nat) : Int) := by rw [w64 (by omega) (by omega)]; rfl
    obtain ⟨K3, hK3⟩ := ref2 l x0 x5 s i hil (hl.2 i (by omega) hil) R (l[i]).f3.length 0 flag (by omega) ⟨K2, fun k hk => by
      rw [List.drop_zero, hw]; exact hK2 k hk⟩
    clear hw
    refine ⟨K3 + 1, fun k hk => ?_⟩
    obtain ⟨k, rfl⟩ : ∃ m, k = m + 1 := ⟨k - 1, by omega⟩
    rw [beguinageref12_Free.l1, if_pos (by omega)]
    exact hK3 k (by omega)

theorem ref0 (l : List S36) (hl : Few l 0) (N : Nat) (hN : N ≤ 120) (d : Nat) : ∀ s : Nat, s + d = N →
    ∃ K, ∀ k, K ≤ k → beguinageref12_Free.l0 k (N : Int) l (freeTo l s) (s : Int) = some (freeTo l N) := by
  induction d with
  | zero =>
    intro s hs
    obtain rfl : s = N := by omega
    refine ⟨2, fun k hk => ?_⟩
    obtain ⟨k, rfl⟩ : ∃ m, k = m + 1 + 1 := ⟨k - 2, by omega⟩
    rw [beguinageref12_Free.l0, if_neg (by omega), beguinageref12_Free.j1, if_neg Bool.false_ne_true]
  | succ d ih =>
    intro s hs
    obtain ⟨K, hK⟩ := ih (s + 1) (by omega)
    have hle := freeTo_le l s
    have hw : wrap64 ((s : Int) + 1) = ((s + 1 : Nat) : Int) := by rw [w64 (by omega) (by omega)]; rfl
    obtain ⟨K2, hK2⟩ := ref1 l hl (N : Int) (freeTo l s) (by omega) (s : Int) (some (freeTo l N)) l.length 0 false (by omega) ⟨K, fun k hk => by
      rw [Bool.false_or, List.drop_zero, hasH_segs, hw]
      have := hK k hk
      rw [freeTo_succ] at this
      by_cases hc : (segsOf l).contains (s : Int) = true
      · rw [if_pos hc]; rw [if_pos hc, List.append_nil] at this; exact this
      · rw [if_neg hc]; rw [if_neg hc] at this; exact this⟩
    clear hw
    refine ⟨K2 + 2, fun k hk => ?_⟩
    obtain ⟨k, rfl⟩ : ∃ m, k = m + 1 + 1 := ⟨k - 2, by omega⟩
    have c1 : (s : Int) < (N : Int) := by omega
    have c2 : (s : Int) < 65536 := by omega
    rw [beguinageref12_Free.l0, if_pos c1, decide_eq_true c2, beguinageref12_Free.j1, if_pos rfl]
    exact hK2 k (by omega)

theorem flat_le (c : Nat) : ∀ l : List S36, (∀ h ∈ l, h.f3.length ≤ c) → (segsOf l).length ≤ c * l.length
  | [], _ => Nat.zero_le _
  | h :: t, hh => by
    have := flat_le c t (fun x hx => hh x (by simp [hx]))
    have h1 := hh h (by simp)
    have e : segsOf (h :: t) = h.f3 ++ segsOf t := by unfold segsOf; rw [List.flatMap_cons]
    rw [e, List.length_append, List.length_cons, Nat.mul_succ]; omega
end Pa

theorem PoolAll : ∀ (a0 : Int) (l1 : List S36) (a2 : Int), (Lit.int .i64 a0).wf = true → (l1.length ≤ maxLen ∧ ∀ x_, x_ ∈ l1 → ((Lit.int .i64 x_.f0).wf = true ∧ (Lit.int .i64 x_.f1).wf = true ∧ ((Lit.int .i64 x_.f2.f0).wf = true ∧ (Lit.int .i64 x_.f2.f1).wf = true ∧ (Lit.int .i64 x_.f2.f2).wf = true ∧ (Lit.int .i64 x_.f2.f3).wf = true ∧ (Lit.int .i64 x_.f2.f4).wf = true ∧ (Lit.int .i64 x_.f2.f5).wf = true ∧ (Lit.int .i64 x_.f2.f6).wf = true) ∧ (x_.f3.length ≤ maxLen ∧ ∀ x_1, x_1 ∈ x_.f3 → (Lit.int .i64 x_1).wf = true))) → (Lit.int .i64 a2).wf = true → ∃ k, beguinagelaw12_PoolAll.f k a0 l1 a2 = some true := by
  intro a0 l a2 _ w1 _
  obtain ⟨b, hb, K1, hK1⟩ := Pa.few_at l 20 0 (by omega)
  have hfew : ∀ k, K1 ≤ k → beguinagelaw12_few.f k l = some b := fun k hk => hK1 k hk
  cases b with
  | false =>
    refine ⟨K1, ?_⟩
    unfold beguinagelaw12_PoolAll.f
    rw [hfew K1 (Nat.le_refl _), Option.bind_some, if_neg Bool.false_ne_true, p_awake, Option.bind_some]
  | true =>
    have F := hb rfl
    have v0 := Int.emod_nonneg a0 (show (120 : Int) ≠ 0 by omega)
    have v1 := Int.emod_lt_of_pos a0 (show (0 : Int) < 120 by omega)
    obtain ⟨N, hN⟩ := Int.eq_ofNat_of_zero_le v0
    have hpl : beguinagelaw00_Place.f a0 120 = some (N : Int) := by rw [p_place _ (by omega) (by omega), hN]
    have hsane : sane l := by
      refine ⟨?_, fun x hx => ?_⟩
      · have := Pa.flat_le 60 l (fun h hh => by
          obtain ⟨j, hj, rfl⟩ := List.getElem_of_mem hh
          exact F.2 j (by omega) hj)
        have := F.1
        unfold maxLen; omega
      · obtain ⟨h, hm, hx2⟩ := List.mem_flatMap.1 hx
        exact ((w1.2 h hm).2.2.2).2 x hx2
    have hfree : freeOf (N : Int) l = freeTo l N := free_nat (by omega) l
    have hle := freeTo_le l N
    have f1 : pool_Free.f (N : Int) l = some (freeTo l N) := by unfold pool_Free.f; rw [if_pos hsane, hfree]
    have f2 : pool_Free.f (wrap64 (-1 - (N : Int))) l = some [] := by
      unfold pool_Free.f
      rw [if_pos hsane, w64 (by omega) (by omega)]
      unfold freeOf
      rw [show (mx 0 (mn (-1 - (N : Int)) 65536)).toNat = 0 by unfold mx mn; omega]; rfl
    obtain ⟨K2, hK2⟩ := Pa.ref0 l F N (by omega) N 0 (by omega)
    have r1 : ∀ k, K2 ≤ k → beguinageref12_Free.f k (N : Int) l = some (freeTo l N) := fun k hk => hK2 k hk
    obtain ⟨K3, hK3⟩ := same_self (freeTo l N) (by omega)
    by_cases hc : a2 < 0 ∨ a2 > ((freeTo l N).length : Int)
    · have t1 : pool_Take.f (N : Int) l a2 = some ([], false) := by unfold pool_Take.f; rw [if_pos hsane, hfree, if_pos hc]
      have t2 : ∀ k, K2 ≤ k → beguinageref12_Take.f k (N : Int) l a2 = some ([], false) := fun k hk => by
        unfold beguinageref12_Take.f
        rw [r1 k hk, Option.bind_some]
        by_cases h1 : a2 < 0
        · rw [if_pos h1]
        · rw [if_neg h1, if_pos (hc.resolve_left h1)]
      obtain ⟨K4, hK4⟩ := same_self [] (by simp)
      refine ⟨K1 + K2 + K3 + K4, ?_⟩
      unfold beguinagelaw12_PoolAll.f
      rw [hfew _ (by omega), Option.bind_some, if_pos rfl, hpl, Option.bind_some, t1, Option.bind_some, t2 _ (by omega), Option.bind_some, f1, Option.bind_some, r1 _ (by omega), Option.bind_some, hK3 _ (by omega), Option.bind_some, if_pos rfl, hK4 _ (by omega), Option.bind_some, if_pos rfl, if_pos (show ((([] : List Int), false).2 == (([] : List Int), false).2) = true from rfl), f2, Option.bind_some, if_pos (show ((([] : List Int).length : Nat) : Int) = 0 from rfl), p_awake, Option.bind_some]
    · have h1 : ¬ a2 < 0 := fun h => hc (Or.inl h)
      have h2 : ¬ a2 > ((freeTo l N).length : Int) := fun h => hc (Or.inr h)
      have t1 : pool_Take.f (N : Int) l a2 = some ((freeTo l N).take a2.toNat, true) := by unfold pool_Take.f; rw [if_pos hsane, hfree, if_neg hc]
      have t2 : ∀ k, K2 ≤ k → beguinageref12_Take.f k (N : Int) l a2 = some ((freeTo l N).take a2.toNat, true) := fun k hk => by
        unfold beguinageref12_Take.f
        rw [r1 k hk, Option.bind_some, if_neg h1, if_neg h2, if_pos (by omega), if_pos (by omega)]
      obtain ⟨K4, hK4⟩ := same_self ((freeTo l N).take a2.toNat) (by rw [List.length_take]; omega)
      refine ⟨K1 + K2 + K3 + K4, ?_⟩
      unfold beguinagelaw12_PoolAll.f
      rw [hfew _ (by omega), Option.bind_some, if_pos rfl, hpl, Option.bind_some, t1, Option.bind_some, t2 _ (by omega), Option.bind_some, f1, Option.bind_some, r1 _ (by omega), Option.bind_some, hK3 _ (by omega), Option.bind_some, if_pos rfl, hK4 _ (by omega), Option.bind_some, if_pos rfl, if_pos (show (((freeTo l N).take a2.toNat, true).2 == ((freeTo l N).take a2.toNat, true).2) = true from rfl), f2, Option.bind_some, if_pos (show ((([] : List Int).length : Nat) : Int) = 0 from rfl), p_awake, Option.bind_some]
end Go.Proofs.Ytkdjjkcoonlddaa.Pure
