/- Handles: what a map of handles reads as, and how a list of open handles tells it. Plain. -/
import Derived.Test.YtkdjjkcoonlddaaProg
import Derived.Test.YtkdjjkcoonlddaaAid
import Derived.Maps.OwnOps
import Derived.Maps.OwnSet
import Derived.Maps.RangeWalk
import Derived.WalkKit
import Derived.KernelRfl
import Derived.RowKit3
namespace Go.Proofs.Ytkdjjkcoonlddaa.Caps
open Go.RowKit Go.Maps
set_option linter.unusedVariables false
set_option linter.unusedSimpArgs false

theorem key3 : Keyed Try.prog 3 := int_keyed Try.underlying3
/-- An open handle: its number, its node, its rights. -/
abbrev H3 := Int × Int × Int
def hd (a b : Int) : DataW Nat := .agg [.lit (.int .i64 a), .lit (.int .i64 b)]
/-- How a held node and its rights read. -/
def holdR : Value → Option (DataW Nat × List MemPlace)
  | .agg cs => match cs.toList with
    | [.int .i64 a, .int .i64 b] => some (hd a b, [])
    | _ => none
  | _ => none
theorem holdR_mk (a b : Int) : holdR (.agg #[.int .i64 a, .int .i64 b]) = some (hd a b, []) := rfl
theorem holdR_inv {v : Value} {z : DataW Nat × List MemPlace} (h : holdR v = some z) : ∃ a b, v = .agg #[.int .i64 a, .int .i64 b] ∧ z = (hd a b, []) := by
  unfold holdR at h
  split at h
  · rename_i cs
    split at h
    · rename_i a b hl
      refine ⟨a, b, ?_, (Option.some.inj h).symm⟩
      congr 1
      exact Array.ext' hl
    · cases h
  · cases h
theorem hd_inj {a b c d : Int} (h : hd a b = hd c d) : a = c ∧ b = d := by
  unfold hd at h
  injection h with h
  injection h with h1 h2
  injection h2 with h2 _
  injection h1 with h1
  injection h2 with h2
  injection h1 with _ h1
  injection h2 with _ h2
  exact ⟨h1, h2⟩
theorem isKey (x : Int) : WideAt.IsKeyLit (Lit.int .i64 x) := by simp [WideAt.IsKeyLit]
theorem lit_ne {x y : Int} (h : x ≠ y) : (Lit.int .i64 x) ≠ (Lit.int .i64 y) := fun e => by injection e with _ e; exact h e

/-- What a list of open handles says of a number. -/
def lookH (S : List H3) (h : Int) : Option H3 := S.find? fun p => p.1 == h
/-- A map of handles reads as a list of open ones. -/
structure Rep (D : DataW Nat) (S : List H3) : Prop where
  at_ : ∀ h z, D.atKey (.int .i64 h) z = match lookH S h with | some p => hd p.2.1 p.2.2 | none => z
  has_ : ∀ h, Maps.has D (.int .i64 h) = (lookH S h).isSome
  size_ : Maps.size D = S.length
  nodup : (S.map (·.1)).Nodup
theorem rep_empty : Rep (.map []) [] := ⟨fun h z => rfl, fun h => rfl, rfl, List.nodup_nil⟩
theorem look_append (S : List H3) (p : H3) (h : Int) (hf : lookH S p.1 = none) : lookH (S ++ [p]) h = if p.1 = h then some p else lookH S h := by
  unfold lookH at *
  rw [List.find?_append]
  by_cases e : p.1 = h
  · subst e
    rw [hf, if_pos rfl]
    simp
  · rw [if_neg e]
    have : ((p.1 == h) = false) := beq_eq_false_iff_ne.2 e
    simp [List.find?_cons, this]
theorem look_none {S : List H3} {h : Int} (hf : ∀ p ∈ S, p.1 ≠ h) : lookH S h = none := by
  unfold lookH
  rw [List.find?_eq_none]
  intro p hp
  simpa using hf p hp
theorem look_none_inv {S : List H3} {h : Int} (hf : lookH S h = none) : ∀ p ∈ S, p.1 ≠ h := by
  unfold lookH at hf
  rw [List.find?_eq_none] at hf
  intro p hp
  simpa using hf p hp
theorem look_some {S : List H3} {h : Int} {p : H3} (hf : lookH S h = some p) : p ∈ S ∧ p.1 = h := by
  unfold lookH at hf
  have h1 := List.mem_of_find?_eq_some hf
  have h2 := List.find?_some hf
  exact ⟨h1, by simpa using h2⟩
theorem rep_put {D : DataW Nat} {S : List H3} (r : Rep D S) (ht : Tidy D) (h n k : Int) (hf : lookH S h = none) : Rep (D.put (.int .i64 h) (hd n k)) (S ++ [(h, n, k)]) := by
  refine ⟨fun x z => ?_, fun x => ?_, ?_, ?_⟩
  · rw [look_append S (h, n, k) x hf]
    by_cases e : h = x
    · subst e; rw [if_pos rfl, atKey_put_same ht.isMap (isKey h)]
    · rw [if_neg e, atKey_put_other (lit_ne (fun e2 => e e2.symm)), r.at_]
  · rw [look_append S (h, n, k) x hf]
    by_cases e : h = x
    · subst e; rw [if_pos rfl, has_put_same ht.isMap (isKey h)]; rfl
    · rw [if_neg e, has_put_other (lit_ne (fun e2 => e e2.symm)), r.has_]
  · rw [size_put ht, r.has_, hf, r.size_, List.length_append]; rfl
  · rw [List.map_append, List.nodup_append]
    refine ⟨r.nodup, by simp, fun a ha b hb e => ?_⟩
    obtain ⟨p, hp, rfl⟩ := List.mem_map.1 ha
    have := look_none_inv hf p hp
    simp at hb
    exact this (e.trans hb)
/-- The handles without one. -/
def without (S : List H3) (h : Int) : List H3 := S.filter fun p => !(p.1 == h)
theorem look_without (S : List H3) (h x : Int) : lookH (without S h) x = if h = x then none else lookH S x := by
  unfold lookH without
  by_cases e : h = x
  · subst e
    rw [if_pos rfl, List.find?_eq_none]
    intro p hp
    have := (List.mem_filter.1 hp).2
    simpa using this
  · rw [if_neg e]
    induction S with
    | nil => rfl
    | cons p t ih =>
      by_cases e2 : p.1 = h
      · have h1 : (p.1 == h) = true := beq_iff_eq.2 e2
        have h2 : (p.1 == x) = false := beq_eq_false_iff_ne.2 (fun e3 => e (e2.symm.trans e3))
        rw [List.filter_cons, h1, List.find?_cons, h2]
        exact ih
      · have h1 : (p.1 == h) = false := beq_eq_false_iff_ne.2 e2
        rw [List.filter_cons, h1]
        simp only [Bool.not_false, if_true, List.find?_cons]
        cases (p.1 == x)
        · exact ih
        · rfl
theorem without_len {S : List H3} (h : Int) (hn : (S.map (·.1)).Nodup) (hs : (lookH S h).isSome = true) : (without S h).length + 1 = S.length := by
  induction S with
  | nil => simp [lookH] at hs
  | cons p t ih =>
    rw [List.map_cons, List.nodup_cons] at hn
    by_cases e : p.1 = h
    · have h1 : (p.1 == h) = true := beq_iff_eq.2 e
      have : without t h = t := by
        unfold without
        rw [List.filter_eq_self]
        intro q hq
        have : q.1 ≠ h := fun e2 => hn.1 (by rw [e, ← e2]; exact List.mem_map.2 ⟨q, hq, rfl⟩)
        simpa using this
      unfold without at this ⊢
      rw [List.filter_cons, h1]
      simp only [Bool.not_true, Bool.false_eq_true, if_false, this, List.length_cons]
    · have h1 : (p.1 == h) = false := beq_eq_false_iff_ne.2 e
      have hs2 : (lookH t h).isSome = true := by
        unfold lookH at hs ⊢
        rw [List.find?_cons, h1] at hs
        exact hs
      have := ih hn.2 hs2
      unfold without at this ⊢
      rw [List.filter_cons, h1]
      simp only [Bool.not_false, if_true, List.length_cons]
      omega
theorem rep_del {D : DataW Nat} {S : List H3} (r : Rep D S) (ht : Tidy D) (h : Int) (hs : (lookH S h).isSome = true) : Rep (D.del (.int .i64 h)) (without S h) := by
  refine ⟨fun x z => ?_, fun x => ?_, ?_, ?_⟩
  · rw [look_without]
    by_cases e : h = x
    · subst e; rw [if_pos rfl, atKey_del_same]
    · rw [if_neg e, atKey_del_other (lit_ne (fun e2 => e e2.symm)), r.at_]
  · rw [look_without]
    by_cases e : h = x
    · subst e; rw [if_pos rfl, has_del_same]; rfl
    · rw [if_neg e, has_del_other (lit_ne (fun e2 => e e2.symm)), r.has_]
  · have h1 := size_del (k := .int .i64 h) ht
    have h2 := without_len h r.nodup hs
    rw [r.has_, hs, if_pos rfl, r.size_] at h1
    omega
  · unfold without
    exact (List.Sublist.map _ List.filter_sublist).nodup r.nodup
end Go.Proofs.Ytkdjjkcoonlddaa.Caps
