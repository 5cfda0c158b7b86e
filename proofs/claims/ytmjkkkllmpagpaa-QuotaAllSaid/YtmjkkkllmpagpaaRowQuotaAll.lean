/- The row of the law QuotaAll: out of its plain law (PureQuotaAll) and the printed contract, or its walk. Conditions: none beyond the row's own. -/
import Derived.Test.YtmjkkkllmpagpaaRows
import Derived.Test.YtmjkkkllmpagpaaPureQuotaAll
import Derived.Test.YtmjkkkllmpagpaaOpn
import Derived.WalkKit
import Derived.ProofKit
import Derived.OpenShut
import Derived.ShutString
import Derived.ChangeOld
import Derived.Below
import Derived.SizedLaws
import Derived.KernelRfl
import Derived.Carry
namespace Go.Proofs.Ytmjkkkllmpagpaa.quotaAll
open Go.ChangeShapes Go.WideShapes Go.ChangeAt Go.RowKit Go.Deep
open Go.ChangeMaps (open_string shut_string)
open Go.Proofs.Ytmjkkkllmpagpaa.Opn Go.Proofs.YtmjkkkllmpagpaaW.PrintWords Go.Proofs.Ytmjkkkllmpagpaa.PQuota
set_option linter.unusedVariables false
set_option linter.unusedSimpArgs false
theorem own : ownKnob Try.prog.godebug = none := by kernel_rfl
theorem laidOut : laidOutB Try.prog = true := by kernel_rfl
theorem cells29 : Try.prog.cellsOf 29 = 7 := by kernel_rfl
theorem opnv29 {H : Type} (enc : TypeId × Value → H) (W : World) (base : Nat) (spare : Nat → Bool) (held : Bool) (fuel : Nat) (cs : List Value) (x : DataW H × List MemPlace)
    (h : DataW.trod enc Try.prog W base spare held fuel 29 cs = some x) : ∃ (a0 : Int) (a1 : Int) (a2 : Int) (a3 : Int) (a4 : Int) (a5 : Int) (a6 : Int), cs = [.int .i64 a0, .int .i64 a1, .int .i64 a2, .int .i64 a3, .int .i64 a4, .int .i64 a5, .int .i64 a6] ∧ (Lit.int .i64 a0).wf = true ∧ (Lit.int .i64 a1).wf = true ∧ (Lit.int .i64 a2).wf = true ∧ (Lit.int .i64 a3).wf = true ∧ (Lit.int .i64 a4).wf = true ∧ (Lit.int .i64 a5).wf = true ∧ (Lit.int .i64 a6).wf = true := by
  obtain ⟨ys, n, _, _, hlen, hyl, hf⟩ := DataW.trod_struct Try.underlying29 h
  have hl : cs.length = 7 := hlen.trans cells29
  match cs, hl with
  | [c0, c1, c2, c3, c4, c5, c6], _ =>
    have g0 := hf 0 _ rfl
    have g0' : DataW.trod enc Try.prog W base spare held n 3 [c0] = ys[0]? := by
      have e : Try.prog.cellsOf 3 = 1 := by kernel_rfl
      simpa [e] using g0
    obtain ⟨y0, hy0⟩ : ∃ y, ys[0]? = some y := ⟨ys[0]'(by rw [hyl]; decide), List.getElem?_eq_getElem _⟩
    obtain ⟨a0, q0, r0⟩ := (opn_int Try.underlying3) enc W base spare held n [c0] y0 (g0'.trans hy0)
    obtain rfl := List.cons_eq_cons.1 q0 |>.1
    have g1 := hf 1 _ rfl
    have g1' : DataW.trod enc Try.prog W base spare held n 3 [c1] = ys[1]? := by
      have e : Try.prog.cellsOf 3 = 1 := by kernel_rfl
      simpa [e] using g1
    obtain ⟨y1, hy1⟩ : ∃ y, ys[1]? = some y := ⟨ys[1]'(by rw [hyl]; decide), List.getElem?_eq_getElem _⟩
    obtain ⟨a1, q1, r1⟩ := (opn_int Try.underlying3) enc W base spare held n [c1] y1 (g1'.trans hy1)
    obtain rfl := List.cons_eq_cons.1 q1 |>.1
    have g2 := hf 2 _ rfl
    have g2' : DataW.trod enc Try.prog W base spare held n 3 [c2] = ys[2]? := by
      have e : Try.prog.cellsOf 3 = 1 := by kernel_rfl
      simpa [e] using g2
    obtain ⟨y2, hy2⟩ : ∃ y, ys[2]? = some y := ⟨ys[2]'(by rw [hyl]; decide), List.getElem?_eq_getElem _⟩
    obtain ⟨a2, q2, r2⟩ := (opn_int Try.underlying3) enc W base spare held n [c2] y2 (g2'.trans hy2)
    obtain rfl := List.cons_eq_cons.1 q2 |>.1
    have g3 := hf 3 _ rfl
    have g3' : DataW.trod enc Try.prog W base spare held n 3 [c3] = ys[3]? := by
      have e : Try.prog.cellsOf 3 = 1 := by kernel_rfl
      simpa [e] using g3
    obtain ⟨y3, hy3⟩ : ∃ y, ys[3]? = some y := ⟨ys[3]'(by rw [hyl]; decide), List.getElem?_eq_getElem _⟩
    obtain ⟨a3, q3, r3⟩ := (opn_int Try.underlying3) enc W base spare held n [c3] y3 (g3'.trans hy3)
    obtain rfl := List.cons_eq_cons.1 q3 |>.1
    have g4 := hf 4 _ rfl
    have g4' : DataW.trod enc Try.prog W base spare held n 3 [c4] = ys[4]? := by
      have e : Try.prog.cellsOf 3 = 1 := by kernel_rfl
      simpa [e] using g4
    obtain ⟨y4, hy4⟩ : ∃ y, ys[4]? = some y := ⟨ys[4]'(by rw [hyl]; decide), List.getElem?_eq_getElem _⟩
    obtain ⟨a4, q4, r4⟩ := (opn_int Try.underlying3) enc W base spare held n [c4] y4 (g4'.trans hy4)
    obtain rfl := List.cons_eq_cons.1 q4 |>.1
    have g5 := hf 5 _ rfl
    have g5' : DataW.trod enc Try.prog W base spare held n 3 [c5] = ys[5]? := by
      have e : Try.prog.cellsOf 3 = 1 := by kernel_rfl
      simpa [e] using g5
    obtain ⟨y5, hy5⟩ : ∃ y, ys[5]? = some y := ⟨ys[5]'(by rw [hyl]; decide), List.getElem?_eq_getElem _⟩
    obtain ⟨a5, q5, r5⟩ := (opn_int Try.underlying3) enc W base spare held n [c5] y5 (g5'.trans hy5)
    obtain rfl := List.cons_eq_cons.1 q5 |>.1
    have g6 := hf 6 _ rfl
    have g6' : DataW.trod enc Try.prog W base spare held n 3 [c6] = ys[6]? := by
      have e : Try.prog.cellsOf 3 = 1 := by kernel_rfl
      simpa [e] using g6
    obtain ⟨y6, hy6⟩ : ∃ y, ys[6]? = some y := ⟨ys[6]'(by rw [hyl]; decide), List.getElem?_eq_getElem _⟩
    obtain ⟨a6, q6, r6⟩ := (opn_int Try.underlying3) enc W base spare held n [c6] y6 (g6'.trans hy6)
    obtain rfl := List.cons_eq_cons.1 q6 |>.1
    exact ⟨a0, a1, a2, a3, a4, a5, a6, rfl, r0, r1, r2, r3, r4, r5, r6⟩
theorem cells53 : Try.prog.cellsOf 53 = 4 := by kernel_rfl
theorem opnv53 {H : Type} (enc : TypeId × Value → H) (W : World) (base : Nat) (spare : Nat → Bool) (held : Bool) (fuel : Nat) (cs : List Value) (x : DataW H × List MemPlace)
    (h : DataW.trod enc Try.prog W base spare held fuel 53 cs = some x) : ∃ (a0 : Int) (a1 : Int) (a2 : Int) (a3 : Int), cs = [.int .i64 a0, .int .i64 a1, .int .i64 a2, .int .i64 a3] ∧ (Lit.int .i64 a0).wf = true ∧ (Lit.int .i64 a1).wf = true ∧ (Lit.int .i64 a2).wf = true ∧ (Lit.int .i64 a3).wf = true := by
  obtain ⟨ys, n, _, _, hlen, hyl, hf⟩ := DataW.trod_struct Try.underlying53 h
  have hl : cs.length = 4 := hlen.trans cells53
  match cs, hl with
  | [c0, c1, c2, c3], _ =>
    have g0 := hf 0 _ rfl
    have g0' : DataW.trod enc Try.prog W base spare held n 3 [c0] = ys[0]? := by
      have e : Try.prog.cellsOf 3 = 1 := by kernel_rfl
      simpa [e] using g0
    obtain ⟨y0, hy0⟩ : ∃ y, ys[0]? = some y := ⟨ys[0]'(by rw [hyl]; decide), List.getElem?_eq_getElem _⟩
    obtain ⟨a0, q0, r0⟩ := (opn_int Try.underlying3) enc W base spare held n [c0] y0 (g0'.trans hy0)
    obtain rfl := List.cons_eq_cons.1 q0 |>.1
    have g1 := hf 1 _ rfl
    have g1' : DataW.trod enc Try.prog W base spare held n 3 [c1] = ys[1]? := by
      have e : Try.prog.cellsOf 3 = 1 := by kernel_rfl
      simpa [e] using g1
    obtain ⟨y1, hy1⟩ : ∃ y, ys[1]? = some y := ⟨ys[1]'(by rw [hyl]; decide), List.getElem?_eq_getElem _⟩
    obtain ⟨a1, q1, r1⟩ := (opn_int Try.underlying3) enc W base spare held n [c1] y1 (g1'.trans hy1)
    obtain rfl := List.cons_eq_cons.1 q1 |>.1
    have g2 := hf 2 _ rfl
    have g2' : DataW.trod enc Try.prog W base spare held n 3 [c2] = ys[2]? := by
      have e : Try.prog.cellsOf 3 = 1 := by kernel_rfl
      simpa [e] using g2
    obtain ⟨y2, hy2⟩ : ∃ y, ys[2]? = some y := ⟨ys[2]'(by rw [hyl]; decide), List.getElem?_eq_getElem _⟩
    obtain ⟨a2, q2, r2⟩ := (opn_int Try.underlying3) enc W base spare held n [c2] y2 (g2'.trans hy2)
    obtain rfl := List.cons_eq_cons.1 q2 |>.1
    have g3 := hf 3 _ rfl
    have g3' : DataW.trod enc Try.prog W base spare held n 3 [c3] = ys[3]? := by
      have e : Try.prog.cellsOf 3 = 1 := by kernel_rfl
      simpa [e] using g3
    obtain ⟨y3, hy3⟩ : ∃ y, ys[3]? = some y := ⟨ys[3]'(by rw [hyl]; decide), List.getElem?_eq_getElem _⟩
    obtain ⟨a3, q3, r3⟩ := (opn_int Try.underlying3) enc W base spare held n [c3] y3 (g3'.trans hy3)
    obtain rfl := List.cons_eq_cons.1 q3 |>.1
    exact ⟨a0, a1, a2, a3, rfl, r0, r1, r2, r3⟩
set_option maxRecDepth 100000 in
theorem lifted (os : Os) (started : os.Started) (H : Type) (enc : TypeId × Value → H) :
    ReturnsInHanded {} Try.checked os 10 .any (Rows.quotaAllSpec.pre6 enc Try.prog Try.f10 Rows.quotaAllRow.domain false) (Rows.quotaAllSpec.post enc Try.prog Try.f10 false true false false) := by
  refine returnsInHanded_of_change_sized (C := Try.checked) own started (by kernel_rfl) Try.func10
    (ChangeSpec.witness6 (enc := enc) (C := Try.checked) false ⟨#[], #[.agg #[.int .i64 0, .int .i64 0, .int .i64 0, .int .i64 0, .int .i64 0, .int .i64 0, .int .i64 0], .agg #[.int .i64 0, .int .i64 0, .int .i64 0, .int .i64 0], .int .i64 0, .int .i64 0, .int .i64 0], []⟩ 8 (by kernel_rfl) (by kernel_rfl) (by kernel_rfl) (by kernel_rfl)) ?_
  intro W base args ds gs before hval0 hW hcnd hsz0 _
  have hsz : (DataW.weightsEach Try.prog (Try.f10.params.toList ++ Rows.quotaAllSpec.plain.varTypes Try.prog) (ds ++ gs)).all (· ≤ reachBytes) = true := hsz0
  have hval : ∀ (j : Nat) t v, Try.f10.params[j]? = some t → args[j]? = some v → Value.okWide Try.prog W .any base t v := hval0
  have hW' := hW
  obtain ⟨p, q, hA0, hV, rfl, hfz, hnd⟩ := hW
  have hA : DataW.TrodAll enc Try.prog W 0 (fun _ => true) true Try.f10.params.toList args.toList ds p := hA0
  rw [Try.params10] at hA hval hsz
  obtain ⟨v0, vs0, d0, ds0, p0, q0, hargs, rfl, rfl, h0, r0⟩ := trodAll_cons hA
  obtain ⟨v1, vs1, d1, ds1, p1, q1, rfl, rfl, rfl, h1, r1⟩ := trodAll_cons r0
  obtain ⟨v2, vs2, d2, ds2, p2, q2, rfl, rfl, rfl, h2, r2⟩ := trodAll_cons r1
  obtain ⟨v3, vs3, d3, ds3, p3, q3, rfl, rfl, rfl, h3, r3⟩ := trodAll_cons r2
  obtain ⟨v4, vs4, d4, ds4, p4, q4, rfl, rfl, rfl, h4, r4⟩ := trodAll_cons r3
  obtain ⟨rfl, rfl, rfl⟩ := trodAll_nil r4
  obtain rfl : args = #[v0, v1, v2, v3, v4] := by cases args; simp_all
  obtain ⟨rfl, rfl⟩ := trodVars_none hV
  have k0 := h0
  have lt0 : ∀ x ∈ p0, x.block < W.heap.size := by obtain ⟨m, hm⟩ := k0; exact DataW.trod_lt m _ _ _ hm
  obtain ⟨z0, rfl, _⟩ := okWide_struct Try.underlying29 (hval 0 29 v0 rfl rfl)
  obtain ⟨b0_0, b0_1, b0_2, b0_3, b0_4, b0_5, b0_6, e0, w0_0, w0_1, w0_2, w0_3, w0_4, w0_5, w0_6⟩ : ∃ (b0_0 : Int) (b0_1 : Int) (b0_2 : Int) (b0_3 : Int) (b0_4 : Int) (b0_5 : Int) (b0_6 : Int), z0.toList = [.int .i64 b0_0, .int .i64 b0_1, .int .i64 b0_2, .int .i64 b0_3, .int .i64 b0_4, .int .i64 b0_5, .int .i64 b0_6] ∧ (Lit.int .i64 b0_0).wf = true ∧ (Lit.int .i64 b0_1).wf = true ∧ (Lit.int .i64 b0_2).wf = true ∧ (Lit.int .i64 b0_3).wf = true ∧ (Lit.int .i64 b0_4).wf = true ∧ (Lit.int .i64 b0_5).wf = true ∧ (Lit.int .i64 b0_6).wf = true := by
    obtain ⟨fuel, hf⟩ := h0
    exact opnv29 enc W _ _ _ fuel _ _ hf
  obtain rfl : z0 = #[.int .i64 b0_0, .int .i64 b0_1, .int .i64 b0_2, .int .i64 b0_3, .int .i64 b0_4, .int .i64 b0_5, .int .i64 b0_6] := by
    obtain ⟨l⟩ := z0
    simpa using e0
  have k1 := h1
  have lt1 : ∀ x ∈ p1, x.block < W.heap.size := by obtain ⟨m, hm⟩ := k1; exact DataW.trod_lt m _ _ _ hm
  obtain ⟨z1, rfl, _⟩ := okWide_struct Try.underlying53 (hval 1 53 v1 rfl rfl)
  obtain ⟨b1_0, b1_1, b1_2, b1_3, e1, w1_0, w1_1, w1_2, w1_3⟩ : ∃ (b1_0 : Int) (b1_1 : Int) (b1_2 : Int) (b1_3 : Int), z1.toList = [.int .i64 b1_0, .int .i64 b1_1, .int .i64 b1_2, .int .i64 b1_3] ∧ (Lit.int .i64 b1_0).wf = true ∧ (Lit.int .i64 b1_1).wf = true ∧ (Lit.int .i64 b1_2).wf = true ∧ (Lit.int .i64 b1_3).wf = true := by
    obtain ⟨fuel, hf⟩ := h1
    exact opnv53 enc W _ _ _ fuel _ _ hf
  obtain rfl : z1 = #[.int .i64 b1_0, .int .i64 b1_1, .int .i64 b1_2, .int .i64 b1_3] := by
    obtain ⟨l⟩ := z1
    simpa using e1
  obtain ⟨a2, rfl, rfl, rfl, w2⟩ := open_int Try.underlying3 (hval 2 3 v2 rfl rfl) h2
  obtain ⟨a3, rfl, rfl, rfl, w3⟩ := open_int Try.underlying3 (hval 3 3 v3 rfl rfl) h3
  obtain ⟨a4, rfl, rfl, rfl, w4⟩ := open_int Try.underlying3 (hval 4 3 v4 rfl rfl) h4
  clear hA0 hval0 hsz0 hsz
  have hk := Go.Proofs.Ytmjkkkllmpagpaa.Pure.QuotaAll b0_0 b0_1 b0_2 b0_3 b0_4 b0_5 b0_6 b1_0 b1_1 b1_2 b1_3 a2 a3 a4 w0_0 w0_1 w0_2 w0_3 w0_4 w0_5 w0_6 w1_0 w1_1 w1_2 w1_3 w2 w3 w4
  refine (beguinagelaw22_QuotaAll.calls b0_0 b0_1 b0_2 b0_3 b0_4 b0_5 b0_6 b1_0 b1_1 b1_2 b1_3 a2 a3 a4 true W  hk ⟨rfl⟩).mono fun e W' ⟨he, bel0⟩ => ?_
  have bel : Below W.heap.size W W' := bel0
  subst he
  exact ⟨_, rfl, _, _, _, [], _, [], hW', trodAll_mk1 (shut_bool Try.underlying4 _), (trodAll_cons_mk (Below.trod laidOut (by kernel_rfl) (of_decide_eq_true (by kernel_rfl)) k0 bel lt0) (trodAll_cons_mk (Below.trod laidOut (by kernel_rfl) (of_decide_eq_true (by kernel_rfl)) k1 bel lt1) (trodAll_cons_mk (shut_int Try.underlying3 w2) (trodAll_cons_mk (shut_int Try.underlying3 w3) (trodAll_cons_mk (shut_int Try.underlying3 w4) trodAll_mk0))))), rfl, bel.frame _, fun h => by cases h⟩
theorem over : Rows.quotaAllRow.holds Try.pinned (OpenSpec.ofChange Rows.quotaAllSpec) :=
  OpenClaim.holds_of_wide 10 Try.f10 rfl rfl rfl rfl rfl rfl rfl ⟨rfl, rfl, rfl, rfl, rfl⟩ rfl rfl rfl rfl rfl (by kernel_rfl) Try.func10 (by kernel_rfl)
    (of_decide_eq_true (by kernel_rfl)) (by unfold Func.isWrapper; first | (rw [if_pos (by decide +kernel)]; kernel_rfl) | (rw [if_neg (by decide +kernel)]; exact ⟨rfl, rfl⟩))
    (fun os started H enc _ => lifted os started H enc)
theorem proved : Rows.QuotaAllSaid := over
#print axioms proved
end Go.Proofs.Ytmjkkkllmpagpaa.quotaAll
namespace Go.Proofs.Ytmjkkkllmpagpaa
theorem quotaAll_holds : Rows.QuotaAllSaid := quotaAll.proved
end Go.Proofs.Ytmjkkkllmpagpaa
