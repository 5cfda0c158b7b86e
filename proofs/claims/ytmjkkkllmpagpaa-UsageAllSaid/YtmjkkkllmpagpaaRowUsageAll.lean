/- The row of the law UsageAll: out of its plain law (PureUsageAll) and the printed contract, or its walk. Conditions: none beyond the row's own. -/
import Derived.Test.YtmjkkkllmpagpaaRows
import Derived.Test.YtmjkkkllmpagpaaPureUsageAll
import Derived.Test.YtmjkkkllmpagpaaOpn
import Derived.WalkKit
import Derived.ProofKit
import Derived.OpenShut
import Derived.ShutString
import Derived.ChangeOld
import Derived.Below
import Derived.SizedLaws
import Derived.KernelRfl
import Derived.Carry
namespace Go.Proofs.Ytmjkkkllmpagpaa.usageAll
open Go.ChangeShapes Go.WideShapes Go.ChangeAt Go.RowKit Go.Deep
open Go.ChangeMaps (open_string shut_string)
open Go.Proofs.Ytmjkkkllmpagpaa.Opn Go.Proofs.YtmjkkkllmpagpaaW.PrintWords Go.Proofs.Ytmjkkkllmpagpaa.PUsage
set_option linter.unusedVariables false
set_option linter.unusedSimpArgs false
theorem own : ownKnob Try.prog.godebug = none := by kernel_rfl
theorem laidOut : laidOutB Try.prog = true := by kernel_rfl
theorem cells36 : Try.prog.cellsOf 36 = 3 := by kernel_rfl
theorem opn36 : Opn Try.prog k36 36 (fun x => (Lit.int .i64 x.f0).wf = true ∧ (Lit.int .i64 x.f1).wf = true ∧ True) := by
  intro H enc W base spare held fuel cs x h
  obtain ⟨ys, n, _, _, hlen, hyl, hf⟩ := DataW.trod_struct Try.underlying36 h
  have hl : cs.length = 3 := hlen.trans cells36
  match cs, hl with
  | [c0, c1, c2], _ =>
    have g0 := hf 0 _ rfl
    have g0' : DataW.trod enc Try.prog W base spare held n 3 [c0] = ys[0]? := by
      have e : Try.prog.cellsOf 3 = 1 := by kernel_rfl
      simpa [e] using g0
    obtain ⟨y0, hy0⟩ : ∃ y, ys[0]? = some y := ⟨ys[0]'(by rw [hyl]; decide), List.getElem?_eq_getElem _⟩
    obtain ⟨a0, q0, r0⟩ := (opn_int Try.underlying3) enc W base spare held n [c0] y0 (g0'.trans hy0)
    have g1 := hf 1 _ rfl
    have g1' : DataW.trod enc Try.prog W base spare held n 3 [c1] = ys[1]? := by
      have e : Try.prog.cellsOf 3 = 1 := by kernel_rfl
      simpa [e] using g1
    obtain ⟨y1, hy1⟩ : ∃ y, ys[1]? = some y := ⟨ys[1]'(by rw [hyl]; decide), List.getElem?_eq_getElem _⟩
    obtain ⟨a1, q1, r1⟩ := (opn_int Try.underlying3) enc W base spare held n [c1] y1 (g1'.trans hy1)
    have g2 := hf 2 _ rfl
    have g2' : DataW.trod enc Try.prog W base spare held n 4 [c2] = ys[2]? := by
      have e : Try.prog.cellsOf 4 = 1 := by kernel_rfl
      simpa [e] using g2
    obtain ⟨y2, hy2⟩ : ∃ y, ys[2]? = some y := ⟨ys[2]'(by rw [hyl]; decide), List.getElem?_eq_getElem _⟩
    obtain ⟨a2, q2, r2⟩ := (opn_bool Try.underlying4) enc W base spare held n [c2] y2 (g2'.trans hy2)
    obtain rfl := List.cons_eq_cons.1 q0 |>.1
    obtain rfl := List.cons_eq_cons.1 q1 |>.1
    obtain rfl := List.cons_eq_cons.1 q2 |>.1
    exact ⟨⟨a0, a1, a2⟩, k36_mk W _ , r0, r1, r2⟩
set_option maxRecDepth 100000 in
theorem lifted (os : Os) (started : os.Started) (H : Type) (enc : TypeId × Value → H) :
    ReturnsInHanded {} Try.checked os 5 .any (Rows.usageAllSpec.pre6 enc Try.prog Try.f5 Rows.usageAllRow.domain false) (Rows.usageAllSpec.post enc Try.prog Try.f5 false true false false) := by
  refine returnsInHanded_of_change_sized (C := Try.checked) own started (by kernel_rfl) Try.func5
    (ChangeSpec.witness6 (enc := enc) (C := Try.checked) false ⟨#[], #[.int .i64 0, .slice none 0 0], []⟩ 8 (by kernel_rfl) (by kernel_rfl) (by kernel_rfl) (by kernel_rfl)) ?_
  intro W base args ds gs before hval0 hW hcnd hsz0 _
  have hsz : (DataW.weightsEach Try.prog (Try.f5.params.toList ++ Rows.usageAllSpec.plain.varTypes Try.prog) (ds ++ gs)).all (· ≤ reachBytes) = true := hsz0
  have hval : ∀ (j : Nat) t v, Try.f5.params[j]? = some t → args[j]? = some v → Value.okWide Try.prog W .any base t v := hval0
  have hW' := hW
  obtain ⟨p, q, hA0, hV, rfl, hfz, hnd⟩ := hW
  have hA : DataW.TrodAll enc Try.prog W 0 (fun _ => true) true Try.f5.params.toList args.toList ds p := hA0
  rw [Try.params5] at hA hval hsz
  obtain ⟨v0, vs0, d0, ds0, p0, q0, hargs, rfl, rfl, h0, r0⟩ := trodAll_cons hA
  obtain ⟨v1, vs1, d1, ds1, p1, q1, rfl, rfl, rfl, h1, r1⟩ := trodAll_cons r0
  obtain ⟨rfl, rfl, rfl⟩ := trodAll_nil r1
  obtain rfl : args = #[v0, v1] := by cases args; simp_all
  obtain ⟨rfl, rfl⟩ := trodVars_none hV
  obtain ⟨a0, rfl, rfl, rfl, w0⟩ := open_int Try.underlying3 (hval 0 3 v0 rfl rfl) h0
  have k1 := h1
  have lt1 : ∀ x ∈ p1, x.block < W.heap.size := by obtain ⟨m, hm⟩ := k1; exact DataW.trod_lt m _ _ _ hm
  obtain ⟨A1, n1, c1, rfl⟩ := okWide_slice Try.underlying33 (hval 1 33 v1 rfl rfl)
  obtain ⟨l1, ⟨B1, b1, e1, hc1, hr1⟩, w1⟩ : ∃ a, (Kd.slice 36 k36).K W a [.slice A1 n1 c1] ∧ (a.length ≤ maxLen ∧ ∀ x_, x_ ∈ a → ((Lit.int .i64 x_.f0).wf = true ∧ (Lit.int .i64 x_.f1).wf = true ∧ True)) := by
    obtain ⟨fuel, hf⟩ := h1
    exact (opn_slice Try.underlying33 opn36 (by kernel_rfl)) enc W _ _ _ fuel _ _ hf
  simp only [List.cons.injEq, and_true, Value.slice.injEq] at e1
  obtain ⟨rfl, rfl, rfl⟩ := e1
  clear hA0 hval0 hsz0 hsz
  obtain ⟨k, hk⟩ := Go.Proofs.Ytmjkkkllmpagpaa.Pure.UsageAll a0 l1 w0 w1
  refine (beguinagelaw19_UsageAll.calls k a0 A1 c1 l1 true W hr1 hc1 hk ⟨rfl⟩).mono fun e W' ⟨he, bel0⟩ => ?_
  have bel : Below W.heap.size W W' := bel0
  subst he
  exact ⟨_, rfl, _, _, _, [], _, [], hW', trodAll_mk1 (shut_bool Try.underlying4 _), (trodAll_cons_mk (shut_int Try.underlying3 w0) (trodAll_cons_mk (Below.trod laidOut (by kernel_rfl) (of_decide_eq_true (by kernel_rfl)) k1 bel lt1) trodAll_mk0)), rfl, bel.frame _, fun h => by cases h⟩
theorem over : Rows.usageAllRow.holds Try.pinned (OpenSpec.ofChange Rows.usageAllSpec) :=
  OpenClaim.holds_of_wide 5 Try.f5 rfl rfl rfl rfl rfl rfl rfl ⟨rfl, rfl, rfl, rfl, rfl⟩ rfl rfl rfl rfl rfl (by kernel_rfl) Try.func5 (by kernel_rfl)
    (of_decide_eq_true (by kernel_rfl)) (by unfold Func.isWrapper; first | (rw [if_pos (by decide +kernel)]; kernel_rfl) | (rw [if_neg (by decide +kernel)]; exact ⟨rfl, rfl⟩))
    (fun os started H enc _ => lifted os started H enc)
theorem proved : Rows.UsageAllSaid := over
#print axioms proved
end Go.Proofs.Ytmjkkkllmpagpaa.usageAll
namespace Go.Proofs.Ytmjkkkllmpagpaa
theorem usageAll_holds : Rows.UsageAllSaid := usageAll.proved
end Go.Proofs.Ytmjkkkllmpagpaa
