/- Sets of ints kept as map[int]bool: what a set of such numbers reads as, asking it, putting into it. -/
import Derived.Test.YtbdghlneiblkcaaProg
import Derived.Maps.OwnOps
import Derived.Maps.OwnSet
import Derived.WalkKit
import Derived.KernelRfl
import Derived.RowKit3
namespace Go.Proofs.Ytbdghlneiblkcaa.Sets
open Go.RowKit Go.Maps
set_option linter.unusedVariables false

theorem key3 : Keyed Try.prog 3 := int_keyed Try.underlying3
theorem zero4 (w : World) : (zeroValue 4).run Try.prog w = .ok (.bool false) w := by kernel_rfl

/-- The set of the numbers xs, as a map reads. -/
def setD (xs : List Int) : DataW Nat := setOf (.lit (.bool true)) (xs.map (Lit.int .i64))

theorem setD_snoc (xs : List Int) (x : Int) : setD (xs ++ [x]) = (setD xs).put (.int .i64 x) (.lit (.bool true)) := by
  unfold setD
  rw [List.map_append]
  exact setOf_snoc _ _ _

theorem isKey (x : Int) : WideAt.IsKeyLit (Lit.int .i64 x) := by simp [WideAt.IsKeyLit]

theorem atKey_fold (k : Lit) (hk : WideAt.IsKeyLit k) : ∀ (acc : List Lit) (m : DataW Nat), IsMap m → (∀ x ∈ acc, WideAt.IsKeyLit x) →
    (acc.foldl (fun m x => m.put x (.lit (.bool true))) m).atKey k (.lit (.bool false)) = if acc.any (fun x => x.sameKey k) then .lit (.bool true) else m.atKey k (.lit (.bool false))
  | [], m, _, _ => by simp
  | x :: r, m, hm, h => by
    rw [List.foldl_cons, atKey_fold k hk r _ (hm.put x _) (fun y hy => h y (by simp [hy])), List.any_cons]
    by_cases e : k = x
    · subst e
      rw [atKey_put_same hm hk, WideAt.sameKey_self hk]
      simp
    · rw [atKey_put_other e, sameKey_ne (fun e' => e e'.symm)]
      simp

theorem sameKey_int (x y : Int) : (Lit.int .i64 x).sameKey (Lit.int .i64 y) = (x == y) := by
  by_cases h : x = y
  · subst h; rw [WideAt.sameKey_self (isKey x)]; simp
  · rw [sameKey_ne (by intro e; injection e with _ e; exact h e)]; simp [h]

theorem any_contains (x : Int) : ∀ xs : List Int, (xs.map (Lit.int .i64)).any (fun y => y.sameKey (Lit.int .i64 x)) = xs.contains x
  | [] => rfl
  | y :: r => by
    rw [List.map_cons, List.any_cons, any_contains x r, sameKey_int, List.contains_cons]
    congr 1
    exact Bool.eq_iff_iff.2 ⟨fun h => by simpa using (by simpa using h : y = x).symm, fun h => by simpa using (by simpa using h : x = y).symm⟩

/-- WHAT THE SET SAYS OF A NUMBER. -/
theorem setD_at (xs : List Int) (x : Int) : (setD xs).atKey (.int .i64 x) (.lit (.bool false)) = .lit (.bool (xs.contains x)) := by
  unfold setD setOf
  rw [atKey_fold _ (isKey x) _ _ isMap_empty (fun y hy => by obtain ⟨z, _, rfl⟩ := List.mem_map.1 hy; exact isKey z), any_contains]
  cases xs.contains x <;> rfl

theorem plainElem_bool_inv {P : Program} {e : TypeId} (he : P.underlying e = some .bool) {v : Value} {z : DataW Nat × List MemPlace} (h : plainElem P e v = some z) : ∃ a, v = .bool a ∧ z = (.lit (.bool a), []) := by
  unfold plainElem at h
  rw [he] at h
  cases v <;> simp at h
  exact ⟨_, rfl, h.symm⟩

/-- 'set[x]'. -/
theorem set_look {w : World} {b n : Nat} {xs : List Int} (T : TypeId) (hT : Try.prog.underlying T = some (.map 3 4)) (h : w.ownsMap Try.prog 3 (plainElem Try.prog 4) b n (setD xs)) (x : Int) (hx : (Lit.int .i64 x).wf = true) :
    (Instr.lookup T (.map (some b)) (.int .i64 x) false).run Try.prog w = .ok (.bool (xs.contains x)) w := by
  obtain ⟨v, ps, hrun, hv⟩ := h.lookup key3 hT (zero4 w) (plainElem_bool Try.underlying4 false) (keyOf_int_mk Try.underlying3 hx)
  obtain ⟨a, rfl, hz⟩ := plainElem_bool_inv Try.underlying4 hv
  rw [setD_at] at hz
  injection hz with hz _
  injection hz with hz
  injection hz with hz
  rw [hrun, hz]

/-- 'set[x]' at the operation. -/
theorem wp_set_look {P : Program} (hP : P = Try.prog) (w : World) {ops : Array Oper} {rest : List Oper} {o : Oper} {a : Act} {Q : Exit → Act → World → Prop}
    (hg : o.guard = none) (m x : Operand) (t : TypeId) (hop : o.op = Op.lookup t m x false)
    (hT : Try.prog.underlying t = some (.map 3 4)) (b n : Nat) (xs : List Int)
    (hm : a.eval m = .map (some b)) (hown : w.ownsMap Try.prog 3 (plainElem Try.prog 4) b n (setD xs)) (c : Int) (hx : a.eval x = .int .i64 c) (hw : (Lit.int .i64 c).wf = true) (q : Bool) (hq : xs.contains c = q)
    (hK : wpList P ops Q rest (a.put o.dst (.bool q)) w) :
    wpList P ops Q (o :: rest) a w := by
  subst hP
  refine wpList_plain hg fun K' hK' => ?_
  have hrun := set_look t hT hown c hw
  rw [hq] at hrun
  unfold Oper.wp
  simp [execOp, hop, hm, hx, hrun, Result.andThen]
  exact hK' _ _ hK
end Go.Proofs.Ytbdghlneiblkcaa.Sets
