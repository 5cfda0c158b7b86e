/- The row of the law PoolAll: out of its plain law (PurePoolAll) and the printed contract, or its walk. Conditions: none beyond the row's own. -/
import Derived.Test.YtkdjjkcoonlddaaRows
import Derived.Test.YtkdjjkcoonlddaaPurePoolAll
import Derived.Test.YtkdjjkcoonlddaaOpn
import Derived.WalkKit
import Derived.ProofKit
import Derived.OpenShut
import Derived.ShutString
import Derived.ChangeOld
import Derived.Below
import Derived.SizedLaws
import Derived.KernelRfl
import Derived.Carry
namespace Go.Proofs.Ytkdjjkcoonlddaa.poolAll
open Go.ChangeShapes Go.WideShapes Go.ChangeAt Go.RowKit Go.Deep
open Go.ChangeMaps (open_string shut_string)
open Go.Proofs.Ytkdjjkcoonlddaa.Opn Go.Proofs.YtkdjjkcoonlddaaW.PrintWords Go.Proofs.Ytkdjjkcoonlddaa.PPool
set_option linter.unusedVariables false
set_option linter.unusedSimpArgs false
theorem own : ownKnob Try.prog.godebug = none := by kernel_rfl
theorem laidOut : laidOutB Try.prog = true := by kernel_rfl
theorem cells34 : Try.prog.cellsOf 34 = 7 := by kernel_rfl
theorem opn34 : Opn Try.prog k34 34 (fun x => (Lit.int .i64 x.f0).wf = true ∧ (Lit.int .i64 x.f1).wf = true ∧ (Lit.int .i64 x.f2).wf = true ∧ (Lit.int .i64 x.f3).wf = true ∧ (Lit.int .i64 x.f4).wf = true ∧ (Lit.int .i64 x.f5).wf = true ∧ (Lit.int .i64 x.f6).wf = true) := by
  intro H enc W base spare held fuel cs x h
  obtain ⟨ys, n, _, _, hlen, hyl, hf⟩ := DataW.trod_struct Try.underlying34 h
  have hl : cs.length = 7 := hlen.trans cells34
  match cs, hl with
  | [c0, c1, c2, c3, c4, c5, c6], _ =>
    have g0 := hf 0 _ rfl
    have g0' : DataW.trod enc Try.prog W base spare held n 3 [c0] = ys[0]? := by
      have e : Try.prog.cellsOf 3 = 1 := by kernel_rfl
      simpa [e] using g0
    obtain ⟨y0, hy0⟩ : ∃ y, ys[0]? = some y := ⟨ys[0]'(by rw [hyl]; decide), List.getElem?_eq_getElem _⟩
    obtain ⟨a0, q0, r0⟩ := (opn_int Try.underlying3) enc W base spare held n [c0] y0 (g0'.trans hy0)
    have g1 := hf 1 _ rfl
    have g1' : DataW.trod enc Try.prog W base spare held n 3 [c1] = ys[1]? := by
      have e : Try.prog.cellsOf 3 = 1 := by kernel_rfl
      simpa [e] using g1
    obtain ⟨y1, hy1⟩ : ∃ y, ys[1]? = some y := ⟨ys[1]'(by rw [hyl]; decide), List.getElem?_eq_getElem _⟩
    obtain ⟨a1, q1, r1⟩ := (opn_int Try.underlying3) enc W base spare held n [c1] y1 (g1'.trans hy1)
    have g2 := hf 2 _ rfl
    have g2' : DataW.trod enc Try.prog W base spare held n 3 [c2] = ys[2]? := by
      have e : Try.prog.cellsOf 3 = 1 := by kernel_rfl
      simpa [e] using g2
    obtain ⟨y2, hy2⟩ : ∃ y, ys[2]? = some y := ⟨ys[2]'(by rw [hyl]; decide), List.getElem?_eq_getElem _⟩
    obtain ⟨a2, q2, r2⟩ := (opn_int Try.underlying3) enc W base spare held n [c2] y2 (g2'.trans hy2)
    have g3 := hf 3 _ rfl
    have g3' : DataW.trod enc Try.prog W base spare held n 3 [c3] = ys[3]? := by
      have e : Try.prog.cellsOf 3 = 1 := by kernel_rfl
      simpa [e] using g3
    obtain ⟨y3, hy3⟩ : ∃ y, ys[3]? = some y := ⟨ys[3]'(by rw [hyl]; decide), List.getElem?_eq_getElem _⟩
    obtain ⟨a3, q3, r3⟩ := (opn_int Try.underlying3) enc W base spare held n [c3] y3 (g3'.trans hy3)
    have g4 := hf 4 _ rfl
    have g4' : DataW.trod enc Try.prog W base spare held n 3 [c4] = ys[4]? := by
      have e : Try.prog.cellsOf 3 = 1 := by kernel_rfl
      simpa [e] using g4
    obtain ⟨y4, hy4⟩ : ∃ y, ys[4]? = some y := ⟨ys[4]'(by rw [hyl]; decide), List.getElem?_eq_getElem _⟩
    obtain ⟨a4, q4, r4⟩ := (opn_int Try.underlying3) enc W base spare held n [c4] y4 (g4'.trans hy4)
    have g5 := hf 5 _ rfl
    have g5' : DataW.trod enc Try.prog W base spare held n 3 [c5] = ys[5]? := by
      have e : Try.prog.cellsOf 3 = 1 := by kernel_rfl
      simpa [e] using g5
    obtain ⟨y5, hy5⟩ : ∃ y, ys[5]? = some y := ⟨ys[5]'(by rw [hyl]; decide), List.getElem?_eq_getElem _⟩
    obtain ⟨a5, q5, r5⟩ := (opn_int Try.underlying3) enc W base spare held n [c5] y5 (g5'.trans hy5)
    have g6 := hf 6 _ rfl
    have g6' : DataW.trod enc Try.prog W base spare held n 3 [c6] = ys[6]? := by
      have e : Try.prog.cellsOf 3 = 1 := by kernel_rfl
      simpa [e] using g6
    obtain ⟨y6, hy6⟩ : ∃ y, ys[6]? = some y := ⟨ys[6]'(by rw [hyl]; decide), List.getElem?_eq_getElem _⟩
    obtain ⟨a6, q6, r6⟩ := (opn_int Try.underlying3) enc W base spare held n [c6] y6 (g6'.trans hy6)
    obtain rfl := List.cons_eq_cons.1 q0 |>.1
    obtain rfl := List.cons_eq_cons.1 q1 |>.1
    obtain rfl := List.cons_eq_cons.1 q2 |>.1
    obtain rfl := List.cons_eq_cons.1 q3 |>.1
    obtain rfl := List.cons_eq_cons.1 q4 |>.1
    obtain rfl := List.cons_eq_cons.1 q5 |>.1
    obtain rfl := List.cons_eq_cons.1 q6 |>.1
    exact ⟨⟨a0, a1, a2, a3, a4, a5, a6⟩, k34_mk W _ , r0, r1, r2, r3, r4, r5, r6⟩
theorem cells36 : Try.prog.cellsOf 36 = 10 := by kernel_rfl
theorem opn36 : Opn Try.prog k36 36 (fun x => (Lit.int .i64 x.f0).wf = true ∧ (Lit.int .i64 x.f1).wf = true ∧ ((Lit.int .i64 x.f2.f0).wf = true ∧ (Lit.int .i64 x.f2.f1).wf = true ∧ (Lit.int .i64 x.f2.f2).wf = true ∧ (Lit.int .i64 x.f2.f3).wf = true ∧ (Lit.int .i64 x.f2.f4).wf = true ∧ (Lit.int .i64 x.f2.f5).wf = true ∧ (Lit.int .i64 x.f2.f6).wf = true) ∧ (x.f3.length ≤ maxLen ∧ ∀ x_, x_ ∈ x.f3 → (Lit.int .i64 x_).wf = true)) := by
  intro H enc W base spare held fuel cs x h
  obtain ⟨ys, n, _, _, hlen, hyl, hf⟩ := DataW.trod_struct Try.underlying36 h
  have hl : cs.length = 10 := hlen.trans cells36
  match cs, hl with
  | [c0, c1, c2, c3, c4, c5, c6, c7, c8, c9], _ =>
    have g0 := hf 0 _ rfl
    have g0' : DataW.trod enc Try.prog W base spare held n 3 [c0] = ys[0]? := by
      have e : Try.prog.cellsOf 3 = 1 := by kernel_rfl
      simpa [e] using g0
    obtain ⟨y0, hy0⟩ : ∃ y, ys[0]? = some y := ⟨ys[0]'(by rw [hyl]; decide), List.getElem?_eq_getElem _⟩
    obtain ⟨a0, q0, r0⟩ := (opn_int Try.underlying3) enc W base spare held n [c0] y0 (g0'.trans hy0)
    have g1 := hf 1 _ rfl
    have g1' : DataW.trod enc Try.prog W base spare held n 3 [c1] = ys[1]? := by
      have e : Try.prog.cellsOf 3 = 1 := by kernel_rfl
      simpa [e] using g1
    obtain ⟨y1, hy1⟩ : ∃ y, ys[1]? = some y := ⟨ys[1]'(by rw [hyl]; decide), List.getElem?_eq_getElem _⟩
    obtain ⟨a1, q1, r1⟩ := (opn_int Try.underlying3) enc W base spare held n [c1] y1 (g1'.trans hy1)
    have g2 := hf 2 _ rfl
    have g2' : DataW.trod enc Try.prog W base spare held n 34 [c2, c3, c4, c5, c6, c7, c8] = ys[2]? := by
      have e : Try.prog.cellsOf 34 = 7 := by kernel_rfl
      simpa [e] using g2
    obtain ⟨y2, hy2⟩ : ∃ y, ys[2]? = some y := ⟨ys[2]'(by rw [hyl]; decide), List.getElem?_eq_getElem _⟩
    obtain ⟨a2, q2, r2⟩ := opn34 enc W base spare held n [c2, c3, c4, c5, c6, c7, c8] y2 (g2'.trans hy2)
    have g3 := hf 3 _ rfl
    have g3' : DataW.trod enc Try.prog W base spare held n 26 [c9] = ys[3]? := by
      have e : Try.prog.cellsOf 26 = 1 := by kernel_rfl
      simpa [e] using g3
    obtain ⟨y3, hy3⟩ : ∃ y, ys[3]? = some y := ⟨ys[3]'(by rw [hyl]; decide), List.getElem?_eq_getElem _⟩
    obtain ⟨a3, q3, r3⟩ := (opn_slice Try.underlying26 (opn_int Try.underlying3) (by kernel_rfl)) enc W base spare held n [c9] y3 (g3'.trans hy3)
    obtain rfl := List.cons_eq_cons.1 q0 |>.1
    obtain rfl := List.cons_eq_cons.1 q1 |>.1
    have e2 := k34_open q2
    simp only [List.cons.injEq, and_true] at e2
    obtain ⟨rfl, rfl, rfl, rfl, rfl, rfl, rfl⟩ := e2
    obtain ⟨A3, d3, e3, l3, g3_⟩ := q3
    obtain rfl := List.cons_eq_cons.1 e3 |>.1
    exact ⟨⟨a0, a1, a2, a3⟩, k36_mk W _ l3 g3_, r0, r1, r2, r3⟩
set_option maxRecDepth 100000 in
theorem lifted (os : Os) (started : os.Started) (H : Type) (enc : TypeId × Value → H) :
    ReturnsInHanded {} Try.checked os 3 .any (Rows.poolAllSpec.pre6 enc Try.prog Try.f3 Rows.poolAllRow.domain false) (Rows.poolAllSpec.post enc Try.prog Try.f3 false true false false) := by
  refine returnsInHanded_of_change_sized (C := Try.checked) own started (by kernel_rfl) Try.func3
    (ChangeSpec.witness6 (enc := enc) (C := Try.checked) false ⟨#[], #[.int .i64 0, .slice none 0 0, .int .i64 0], []⟩ 8 (by kernel_rfl) (by kernel_rfl) (by kernel_rfl) (by kernel_rfl)) ?_
  intro W base args ds gs before hval0 hW hcnd hsz0 _
  have hsz : (DataW.weightsEach Try.prog (Try.f3.params.toList ++ Rows.poolAllSpec.plain.varTypes Try.prog) (ds ++ gs)).all (· ≤ reachBytes) = true := hsz0
  have hval : ∀ (j : Nat) t v, Try.f3.params[j]? = some t → args[j]? = some v → Value.okWide Try.prog W .any base t v := hval0
  have hW' := hW
  obtain ⟨p, q, hA0, hV, rfl, hfz, hnd⟩ := hW
  have hA : DataW.TrodAll enc Try.prog W 0 (fun _ => true) true Try.f3.params.toList args.toList ds p := hA0
  rw [Try.params3] at hA hval hsz
  obtain ⟨v0, vs0, d0, ds0, p0, q0, hargs, rfl, rfl, h0, r0⟩ := trodAll_cons hA
  obtain ⟨v1, vs1, d1, ds1, p1, q1, rfl, rfl, rfl, h1, r1⟩ := trodAll_cons r0
  obtain ⟨v2, vs2, d2, ds2, p2, q2, rfl, rfl, rfl, h2, r2⟩ := trodAll_cons r1
  obtain ⟨rfl, rfl, rfl⟩ := trodAll_nil r2
  obtain rfl : args = #[v0, v1, v2] := by cases args; simp_all
  obtain ⟨rfl, rfl⟩ := trodVars_none hV
  obtain ⟨a0, rfl, rfl, rfl, w0⟩ := open_int Try.underlying3 (hval 0 3 v0 rfl rfl) h0
  have k1 := h1
  have lt1 : ∀ x ∈ p1, x.block < W.heap.size := by obtain ⟨m, hm⟩ := k1; exact DataW.trod_lt m _ _ _ hm
  obtain ⟨A1, n1, c1, rfl⟩ := okWide_slice Try.underlying22 (hval 1 22 v1 rfl rfl)
  obtain ⟨l1, ⟨B1, b1, e1, hc1, hr1⟩, w1⟩ : ∃ a, (Kd.slice 36 k36).K W a [.slice A1 n1 c1] ∧ (a.length ≤ maxLen ∧ ∀ x_, x_ ∈ a → ((Lit.int .i64 x_.f0).wf = true ∧ (Lit.int .i64 x_.f1).wf = true ∧ ((Lit.int .i64 x_.f2.f0).wf = true ∧ (Lit.int .i64 x_.f2.f1).wf = true ∧ (Lit.int .i64 x_.f2.f2).wf = true ∧ (Lit.int .i64 x_.f2.f3).wf = true ∧ (Lit.int .i64 x_.f2.f4).wf = true ∧ (Lit.int .i64 x_.f2.f5).wf = true ∧ (Lit.int .i64 x_.f2.f6).wf = true) ∧ (x_.f3.length ≤ maxLen ∧ ∀ x_1, x_1 ∈ x_.f3 → (Lit.int .i64 x_1).wf = true))) := by
    obtain ⟨fuel, hf⟩ := h1
    exact (opn_slice Try.underlying22 opn36 (by kernel_rfl)) enc W _ _ _ fuel _ _ hf
  simp only [List.cons.injEq, and_true, Value.slice.injEq] at e1
  obtain ⟨rfl, rfl, rfl⟩ := e1
  obtain ⟨a2, rfl, rfl, rfl, w2⟩ := open_int Try.underlying3 (hval 2 3 v2 rfl rfl) h2
  clear hA0 hval0 hsz0 hsz
  obtain ⟨k, hk⟩ := Go.Proofs.Ytkdjjkcoonlddaa.Pure.PoolAll a0 l1 a2 w0 w1 w2
  refine (beguinagelaw12_PoolAll.calls k a0 A1 c1 l1 a2 true W hr1 hc1 hk ⟨rfl⟩).mono fun e W' ⟨he, bel0⟩ => ?_
  have bel : Below W.heap.size W W' := bel0
  subst he
  exact ⟨_, rfl, _, _, _, [], _, [], hW', trodAll_mk1 (shut_bool Try.underlying4 _), (trodAll_cons_mk (shut_int Try.underlying3 w0) (trodAll_cons_mk (Below.trod laidOut (by kernel_rfl) (of_decide_eq_true (by kernel_rfl)) k1 bel lt1) (trodAll_cons_mk (shut_int Try.underlying3 w2) trodAll_mk0))), rfl, bel.frame _, fun h => by cases h⟩
theorem over : Rows.poolAllRow.holds Try.pinned (OpenSpec.ofChange Rows.poolAllSpec) :=
  OpenClaim.holds_of_wide 3 Try.f3 rfl rfl rfl rfl rfl rfl rfl ⟨rfl, rfl, rfl, rfl, rfl⟩ rfl rfl rfl rfl rfl (by kernel_rfl) Try.func3 (by kernel_rfl)
    (of_decide_eq_true (by kernel_rfl)) (by unfold Func.isWrapper; first | (rw [if_pos (by decide +kernel)]; kernel_rfl) | (rw [if_neg (by decide +kernel)]; exact ⟨rfl, rfl⟩))
    (fun os started H enc _ => lifted os started H enc)
theorem proved : Rows.PoolAllSaid := over
#print axioms proved
end Go.Proofs.Ytkdjjkcoonlddaa.poolAll
namespace Go.Proofs.Ytkdjjkcoonlddaa
theorem poolAll_holds : Rows.PoolAllSaid := poolAll.proved
end Go.Proofs.Ytkdjjkcoonlddaa
