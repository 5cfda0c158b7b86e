/- What an argument reads as, told in the words that the printed functions take: an int, a bool, a string, and slices of such things. Conditions: the argument reads as data at its type. -/
import Derived.Deep.Slices
import Derived.Deep.Fields
import Derived.Test.YtmjkkkllmpagpaaWMore
namespace Go.Proofs.Ytmjkkkllmpagpaa.Opn
open Go.RowKit Go.ChangeShapes Go.WideShapes Go.Deep Go.Proofs.YtmjkkkllmpagpaaW.PrintWords

def Opn {α : Type} (P : Program) (d : Kd α) (t : TypeId) (F : α → Prop) : Prop :=
  ∀ {H : Type} (enc : TypeId × Value → H) (W : World) (base : Nat) (spare : Nat → Bool) (held : Bool) (fuel : Nat) (cs : List Value) (x : DataW H × List MemPlace),
    DataW.trod enc P W base spare held fuel t cs = some x → ∃ a, d.K W a cs ∧ F a

theorem opn_int {P : Program} {t : TypeId} {k : IntKind} (ht : P.underlying t = some (.int k)) : Opn P (Kd.int k) t (fun z => (Lit.int k z).wf = true) := by
  intro H enc W base spare held fuel cs x h
  obtain ⟨n, rfl, _, hw⟩ := DataW.trod_int ht h
  exact ⟨n, rfl, hw⟩
theorem opn_bool {P : Program} {t : TypeId} (ht : P.underlying t = some .bool) : Opn P Kd.bool t (fun _ => True) := by
  intro H enc W base spare held fuel cs x h
  obtain ⟨b, rfl, _⟩ := DataW.trod_bool ht h
  exact ⟨b, rfl, trivial⟩
theorem opn_string {P : Program} {t : TypeId} (ht : P.underlying t = some .string) : Opn P Kd.string t (fun s => s.size ≤ maxLen) := by
  intro H enc W base spare held fuel cs x h
  obtain ⟨s, rfl, _, hs⟩ := DataW.trod_string ht h
  exact ⟨s, rfl, hs⟩

theorem list_of {α : Type} {Q : Nat → α → Prop} : ∀ n : Nat, (∀ i, i < n → ∃ a, Q i a) → ∃ xs : List α, xs.length = n ∧ ∀ i a, xs[i]? = some a → Q i a := by
  intro n
  induction n with
  | zero => exact fun _ => ⟨[], rfl, fun i a h => by simp at h⟩
  | succ n ih =>
    intro h
    obtain ⟨xs, hl, hx⟩ := ih fun i hi => h i (by omega)
    obtain ⟨a, ha⟩ := h n (by omega)
    refine ⟨xs ++ [a], by simp [hl], fun i b hb => ?_⟩
    rcases Nat.lt_or_ge i xs.length with h1 | h1
    · rw [List.getElem?_append_left h1] at hb
      exact hx i b hb
    · rw [List.getElem?_append_right h1] at hb
      have h2 : i - xs.length = 0 := by
        have := (List.getElem?_eq_some_iff.1 hb).1
        simp at this; omega
      rw [h2] at hb
      have h3 : i = n := by omega
      subst h3
      have : a = b := by simpa using hb
      subst this
      exact ha

theorem opn_slice {P : Program} {α : Type} {d : Kd α} {t e : TypeId} {F : α → Prop} (ht : P.underlying t = some (.slice e)) (hd : Opn P d e F) (hC : P.cellsOf e = d.sz) :
    Opn P (Kd.slice e d) t (fun xs => xs.length ≤ maxLen ∧ ∀ x, x ∈ xs → F x) := by
  intro H enc W base spare held fuel cs x h
  rcases open_slice ht h with ⟨hcs, _⟩ | ⟨a, len, cap, m, n, D, Pl, hcs, _, hl, hm, hmm, _, hi⟩
  · refine ⟨[], ⟨none, 0, hcs, Nat.le_refl _, rfl, by simp, fun h => absurd h (by simp)⟩, by simp [maxLen], fun x hx => by cases hx⟩
  · have hml : len ≤ m := by rw [hmm]; split <;> omega
    obtain ⟨xs, hxl, hx⟩ := list_of (Q := fun i a' => ∃ cs', W.cells? base (a.add (i * P.cellsOf e)) (P.cellsOf e) = some cs' ∧ d.K W a' cs' ∧ F a') len (fun i hi' => by
      obtain ⟨cs', h1, h2⟩ := hi i (by omega)
      obtain ⟨a', h3, h4⟩ := hd enc W base spare held n cs' _ h2
      exact ⟨a', cs', h1, h3, h4⟩)
    refine ⟨xs, ⟨some a, cap, by rw [hcs, hxl], by omega, rfl, by unfold maxLen at hm; omega, fun _ => ⟨a, rfl, fun j p hp => ?_⟩⟩, by omega, fun y hy => ?_⟩
    · obtain ⟨cs', h1, h2, _⟩ := hx j p hp
      obtain ⟨_, hcl, hat⟩ := World.cells?_some h1
      refine ⟨cs', by rw [hcl, hC], h2, fun i u hu => ?_⟩
      have hlt : i < cs'.length := (List.getElem?_eq_some_iff.1 hu).1
      have := hat i (by omega)
      rw [hC, Go.Deep.add_add] at this
      rw [this, hu]
    · obtain ⟨i, hi', he⟩ := List.mem_iff_getElem.1 hy
      obtain ⟨_, _, _, h4⟩ := hx i y (by rw [List.getElem?_eq_getElem hi', he])
      exact h4
end Go.Proofs.Ytmjkkkllmpagpaa.Opn
