-- Written by wip/pr.py, a program of this session's own that drives the kit's printer: not a text of print.sh.
import Derived.Test.YtbdghlneiblkcaaPSpanx0
import Derived.Test.YtbdghlneiblkcaaPSpanx1
import Derived.Test.YtbdghlneiblkcaaPSpanx2
import Derived.Test.YtbdghlneiblkcaaPSpanx5
import Derived.Test.YtbdghlneiblkcaaPSpanx7
import Derived.Test.YtbdghlneiblkcaaPSpanx9
import Derived.Test.YtbdghlneiblkcaaPSpanx13
import Derived.Test.YtbdghlneiblkcaaPSpanx14
import Derived.Test.YtbdghlneiblkcaaPSpanx16
import Derived.Test.YtbdghlneiblkcaaPSpanx18
import Derived.Test.YtbdghlneiblkcaaSpanBytes
import Derived.Test.YtbdghlneiblkcaaSpanInds
import Derived.Test.YtbdghlneiblkcaaSpanRefInds
namespace Go.Proofs.Ytbdghlneiblkcaa.PSpan
open Go.RowKit Go.Proofs.YtbdghlneiblkcaaW.PrintWords Go.Proofs.YtbdghlneiblkcaaW.PrintLast Go.Proofs.YtbdghlneiblkcaaW.PrintMore
attribute [local go_sem] max2_int min2_int max_two min_two max_three min_three max_four min_four   -- for this text's walks alone
set_option linter.unusedVariables false
set_option linter.unusedSimpArgs false

/-! ### beguinagelaw10_SpanAll: function 7 -/
def beguinagelaw10_SpanAll.j0 : Nat → Int → List Int → ByteArray → Bool → Option (Bool)
  | 0, _, _, _, _ => none
  | k + 1, x0, x1, x2, x22 => if x22 = true then ((beguinagelaw10_awake.f k).bind fun t214 => (some t214)) else ((span_Way.f k x0).bind fun bt215 => ((beguinageref10_Way.f k x0).bind fun bt219 => (if bt215.1 = bt219.1 then (if bt215.2.1 = bt219.2.1 then (if bt215.2.2.1 = bt219.2.2.1 then (if (bt215.2.2.2 == bt219.2.2.2) = true then (if ([] : List Int).length + x1.length < 17592186044416 then ((span_Inds.f (([] : List Int) ++ x1)).bind fun t226 => ((beguinageref10_Inds.f x1).bind fun t227 => (if t226 = t227 then ((span_Blocks.f x0).bind fun t228 => ((beguinageref10_Blocks.f x0).bind fun t229 => (if t228 = t229 then ((span_Pointers.f k x2).bind fun t230 => ((beguinageref10_Pointers.f k x2).bind fun t233 => ((beguinagelaw00_SameInts.f k t230 t233).bind fun t236 => (if t236 = true then ((span_Bytes.f (([] : List Int) ++ x1)).bind fun t240 => ((beguinageref10_Bytes.f k x1).bind fun t241 => (if t240.toList = t241.toList then ((beguinagelaw10_awake.f k).bind fun t242 => (some t242)) else (some false)))) else (some false))))) else (some false)))) else (some false)))) else (none)) else (some false)) else (some false)) else (some false)) else (some false))))
def beguinagelaw10_SpanAll.f (k : Nat) (a0 : Int) (l1 : List Int) (a2 : ByteArray) : Option (Bool) := if (l1.length : Int) > 700 then (beguinagelaw10_SpanAll.j0 k a0 l1 a2 true) else (beguinagelaw10_SpanAll.j0 k a0 l1 a2 (decide ((a2.size : Int) > 1000)))
theorem beguinagelaw10_SpanAll.mono_l : ∀ k, (∀ y0 y1 y2 y3, LeO (beguinagelaw10_SpanAll.j0 k y0 y1 y2 y3) (beguinagelaw10_SpanAll.j0 (k + 1) y0 y1 y2 y3))
  | 0 => fun _ _ _ _ r h => by simp [beguinagelaw10_SpanAll.j0] at h
  | k + 1 => by
    have ih0 := beguinagelaw10_SpanAll.mono_l k
    · intro y0 y1 y2 y3
      unfold beguinagelaw10_SpanAll.j0
      repeat' first
      | (with_reducible exact ih0 _ _ _ _)
      | (with_reducible exact beguinagelaw00_SameInts.mono _ _ _)
      | (with_reducible exact beguinagelaw10_awake.mono _)
      | (with_reducible exact beguinageref10_Bytes.mono _ _)
      | (with_reducible exact beguinageref10_Pointers.mono _ _)
      | (with_reducible exact beguinageref10_Way.mono _ _)
      | (with_reducible exact span_Pointers.mono _ _)
      | (with_reducible exact span_Way.mono _ _)
      | (with_reducible exact LeO.refl _)
      | (with_reducible exact LeO.none _)
      | (with_reducible refine LeO.ite ?_ ?_)
      | (with_reducible refine LeO.bind ?_ (fun _ => ?_))
      | exact ih0 _ _ _ _
      | exact beguinagelaw00_SameInts.mono _ _ _
      | exact beguinagelaw10_awake.mono _
      | exact beguinageref10_Bytes.mono _ _
      | exact beguinageref10_Pointers.mono _ _
      | exact beguinageref10_Way.mono _ _
      | exact span_Pointers.mono _ _
      | exact span_Way.mono _ _
      | exact LeO.none _
      | refine LeO.ite ?_ ?_
      | refine LeO.bind ?_ (fun _ => ?_)
theorem beguinagelaw10_SpanAll.mono : ∀ a0 a1 a2 k, LeO (beguinagelaw10_SpanAll.f k a0 a1 a2) (beguinagelaw10_SpanAll.f (k + 1) a0 a1 a2) := by
  intro a0 a1 a2 k
  have ih0 := beguinagelaw10_SpanAll.mono_l k
  unfold beguinagelaw10_SpanAll.f
  repeat' first
      | (with_reducible exact ih0 _ _ _ _)
      | (with_reducible exact beguinagelaw00_SameInts.mono _ _ _)
      | (with_reducible exact beguinagelaw10_awake.mono _)
      | (with_reducible exact beguinageref10_Bytes.mono _ _)
      | (with_reducible exact beguinageref10_Pointers.mono _ _)
      | (with_reducible exact beguinageref10_Way.mono _ _)
      | (with_reducible exact span_Pointers.mono _ _)
      | (with_reducible exact span_Way.mono _ _)
      | (with_reducible exact LeO.refl _)
      | (with_reducible exact LeO.none _)
      | (with_reducible refine LeO.ite ?_ ?_)
      | (with_reducible refine LeO.bind ?_ (fun _ => ?_))
      | exact ih0 _ _ _ _
      | exact beguinagelaw00_SameInts.mono _ _ _
      | exact beguinagelaw10_awake.mono _
      | exact beguinageref10_Bytes.mono _ _
      | exact beguinageref10_Pointers.mono _ _
      | exact beguinageref10_Way.mono _ _
      | exact span_Pointers.mono _ _
      | exact span_Way.mono _ _
      | exact LeO.none _
      | refine LeO.ite ?_ ?_
      | refine LeO.bind ?_ (fun _ => ?_)
set_option maxHeartbeats 8000000 in
set_option maxRecDepth 100000 in
theorem beguinagelaw10_SpanAll.calls (k : Nat) (a0 : Int) (A1 : Option Addr) (c1 : Nat) (l1 : List Int) (a2 : ByteArray) (r : Bool) (w : World) (hr1 : Kd.C (Kd.int .i64) w A1 l1.length l1) (hc1 : l1.length ≤ c1) (h : beguinagelaw10_SpanAll.f k a0 l1 a2 = some r) (hr_ : Aside0 (r = true)) :
    Calls Try.prog 7 #[.int .i64 a0, .slice A1 l1.length c1, .string a2] w fun e w' => e = .returned (.bool r) ∧ Below w.heap.size w w' := by
  have HR1 := Aside0.mk hr1
  have HC1 := Aside0.mk hc1
  clear hr1 hc1
  have HB := Aside0.mk (Below.refl w.heap.size w)
  have H : (if (l1.length : Int) > 700 then (beguinagelaw10_SpanAll.j0 k a0 l1 a2 true) else (beguinagelaw10_SpanAll.j0 k a0 l1 a2 (decide ((a2.size : Int) > 1000)))) = some r := h
  clear h
  have HC4 := Aside0.mk H
  clear H
  go_enter Try.func7, Try.ntmps7
  go_upto_region 1 with (fail)
  go_cut [22] (fun v22 wc => ∃ (kq : Nat) (x22_3 : Bool), v22 = .bool x22_3 ∧ Aside0 (beguinagelaw10_SpanAll.j0 kq a0 l1 a2 x22_3 = some r) ∧ Aside0 (kq ≤ k) ∧ Aside0 (Below w.heap.size w wc))
  case first =>
    have H := HC4.out
    clear HC4
    by_cases c5 : (l1.length : Int) > 700
    · rw [if_pos c5] at H
      have c5b0 : decide (700 < (l1.length : Int)) = true := decide_eq_true c5
      have c5b1 : decide (700 < l1.length) = true := decide_eq_true (by omega)
      clear c5
      (first | rw [c5b0] | (simp only [i64_w, i32_w]; rw [c5b0]) | skip)
      have H' := Aside0.mk H
      clear H
      go_wp2
      go_meet
      case rel => exact ⟨_, (true), (by first | rfl | (simp; done) | (simp [*]; done)), H', ⟨by first | omega | exact Nat.le_refl _⟩, ⟨by repeat (first | (with_reducible first | exact HB.out | apply below_alloc | apply pw_below_drewN | apply below_drew1) | exact HB.out)⟩⟩
    · rw [if_neg c5] at H
      have c5b0 : decide (700 < (l1.length : Int)) = false := decide_eq_false c5
      have c5b1 : decide (700 < l1.length) = false := decide_eq_false (by omega)
      clear c5
      (first | rw [c5b0] | (simp only [i64_w, i32_w]; rw [c5b0]) | skip)
      have H' := Aside0.mk H
      clear H
      go_wp2
      go_meet
      case rel => exact ⟨_, (decide ((a2.size : Int) > 1000)), (by first | rfl | (simp; done) | (simp [*]; done)), H', ⟨by first | omega | exact Nat.le_refl _⟩, ⟨by repeat (first | (with_reducible first | exact HB.out | apply below_alloc | apply pw_below_drewN | apply below_drew1) | exact HB.out)⟩⟩
  case rest =>
    clear HC4
    try clear c1
    try clear p2
    try clear c5
    try clear c5b0
    try clear c5b1
    obtain ⟨kq, x22_3, rfl, HA, HJ3, HB⟩ := hcut
    cases kq with
    | zero => exact absurd HA.out (by simp [beguinagelaw10_SpanAll.j0])
    | succ kj3 =>
      have H := HA.out
      clear HA
      simp only [beguinagelaw10_SpanAll.j0] at H
      by_cases c6 : x22_3 = true
      · subst c6
        have H1 : ((beguinagelaw10_awake.f kj3).bind fun t214 => (some t214)) = some r := by rw [if_pos rfl] at H; exact H
        clear H
        have H := H1
        clear H1
        replace H := Option.bind_eq_some_iff.mp H
        obtain ⟨t214, A70, H⟩ := H
        replace H : (some t214) = some r := H
        have A7 := Aside0.mk A70
        clear A70
        obtain rfl := Option.some.inj H
        go_wp2_with (first | ((with_reducible refine gate_callee (f := 18) rfl ?_); refine goesL_ (some 23) rfl rfl Try.func18 (by kernel_rfl) rfl #[] rfl (by (try simp only [List.map_toArray, List.map_cons, List.map_nil]); first | done | rfl | (simp only [List.length_drop, List.length_take]; rfl)) ?_; (with_reducible refine (beguinagelaw10_awake.calls kj3  t214 _ A7.out).mono ?_); rintro e w8 ⟨rfl, hb⟩; refine ⟨_, rfl, ?_⟩; have n0_ := Aside0.mk (below_step (by repeat (first | (with_reducible first | exact HB.out | apply below_alloc | apply pw_below_drewN | apply below_drew1) | exact HB.out)) hb); clear HB; have HB := n0_; clear n0_; (try clear hb); (try clear hb2); (try clear hk); (try clear hi)))
        go_ret
        exact ⟨by first | rfl | (simp [errW_none, errW_some] <;> rfl) | (simp [*, errW_none, errW_some] <;> rfl), by repeat (first | (with_reducible first | exact HB.out | apply below_alloc | apply pw_below_drewN | apply below_drew1) | exact HB.out)⟩
      · replace c6 := Bool.eq_false_iff.mpr c6
        subst c6
        have H1 : ((span_Way.f kj3 a0).bind fun bt215 => ((beguinageref10_Way.f kj3 a0).bind fun bt219 => (if bt215.1 = bt219.1 then (if bt215.2.1 = bt219.2.1 then (if bt215.2.2.1 = bt219.2.2.1 then (if (bt215.2.2.2 == bt219.2.2.2) = true then (if ([] : List Int).length + l1.length < 17592186044416 then ((span_Inds.f (([] : List Int) ++ l1)).bind fun t226 => ((beguinageref10_Inds.f l1).bind fun t227 => (if t226 = t227 then ((span_Blocks.f a0).bind fun t228 => ((beguinageref10_Blocks.f a0).bind fun t229 => (if t228 = t229 then ((span_Pointers.f kj3 a2).bind fun t230 => ((beguinageref10_Pointers.f kj3 a2).bind fun t233 => ((beguinagelaw00_SameInts.f kj3 t230 t233).bind fun t236 => (if t236 = true then ((span_Bytes.f (([] : List Int) ++ l1)).bind fun t240 => ((beguinageref10_Bytes.f kj3 l1).bind fun t241 => (if t240.toList = t241.toList then ((beguinagelaw10_awake.f kj3).bind fun t242 => (some t242)) else (some false)))) else (some false))))) else (some false)))) else (some false)))) else (none)) else (some false)) else (some false)) else (some false)) else (some false)))) = some r := by rw [if_neg (show ¬ (false = true) by decide)] at H; exact H
        clear H
        have H := H1
        clear H1
        replace H := Option.bind_eq_some_iff.mp H
        obtain ⟨⟨t215, t216, t217, t218⟩, A90, H⟩ := H
        replace H : ((beguinageref10_Way.f kj3 a0).bind fun bt219 => (if t215 = bt219.1 then (if t216 = bt219.2.1 then (if t217 = bt219.2.2.1 then (if (t218 == bt219.2.2.2) = true then (if ([] : List Int).length + l1.length < 17592186044416 then ((span_Inds.f (([] : List Int) ++ l1)).bind fun t226 => ((beguinageref10_Inds.f l1).bind fun t227 => (if t226 = t227 then ((span_Blocks.f a0).bind fun t228 => ((beguinageref10_Blocks.f a0).bind fun t229 => (if t228 = t229 then ((span_Pointers.f kj3 a2).bind fun t230 => ((beguinageref10_Pointers.f kj3 a2).bind fun t233 => ((beguinagelaw00_SameInts.f kj3 t230 t233).bind fun t236 => (if t236 = true then ((span_Bytes.f (([] : List Int) ++ l1)).bind fun t240 => ((beguinageref10_Bytes.f kj3 l1).bind fun t241 => (if t240.toList = t241.toList then ((beguinagelaw10_awake.f kj3).bind fun t242 => (some t242)) else (some false)))) else (some false))))) else (some false)))) else (some false)))) else (none)) else (some false)) else (some false)) else (some false)) else (some false))) = some r := H
        have A9 := Aside0.mk A90
        clear A90
        replace H := Option.bind_eq_some_iff.mp H
        obtain ⟨⟨t219, t220, t221, t222⟩, A100, H⟩ := H
        replace H : (if t215 = t219 then (if t216 = t220 then (if t217 = t221 then (if (t218 == t222) = true then (if ([] : List Int).length + l1.length < 17592186044416 then ((span_Inds.f (([] : List Int) ++ l1)).bind fun t226 => ((beguinageref10_Inds.f l1).bind fun t227 => (if t226 = t227 then ((span_Blocks.f a0).bind fun t228 => ((beguinageref10_Blocks.f a0).bind fun t229 => (if t228 = t229 then ((span_Pointers.f kj3 a2).bind fun t230 => ((beguinageref10_Pointers.f kj3 a2).bind fun t233 => ((beguinagelaw00_SameInts.f kj3 t230 t233).bind fun t236 => (if t236 = true then ((span_Bytes.f (([] : List Int) ++ l1)).bind fun t240 => ((beguinageref10_Bytes.f kj3 l1).bind fun t241 => (if t240.toList = t241.toList then ((beguinagelaw10_awake.f kj3).bind fun t242 => (some t242)) else (some false)))) else (some false))))) else (some false)))) else (some false)))) else (none)) else (some false)) else (some false)) else (some false)) else (some false)) = some r := H
        have A10 := Aside0.mk A100
        clear A100
        by_cases c11 : t215 = t219
        · rw [if_pos c11] at H
          have c11b0 : (t215 == t219) = true := beq_iff_eq.mpr c11
          have c11b1 : (t215 != t219) = false := bne_eq_false_iff_eq.mpr c11
          clear c11
          by_cases c12 : t216 = t220
          · rw [if_pos c12] at H
            have c12b0 : (t216 == t220) = true := beq_iff_eq.mpr c12
            have c12b1 : (t216 != t220) = false := bne_eq_false_iff_eq.mpr c12
            clear c12
            by_cases c13 : t217 = t221
            · rw [if_pos c13] at H
              have c13b0 : (t217 == t221) = true := beq_iff_eq.mpr c13
              have c13b1 : (t217 != t221) = false := bne_eq_false_iff_eq.mpr c13
              clear c13
              by_cases c14 : (t218 == t222) = true
              · rw [if_pos c14] at H
                have c14b0 : (t218 == t222) = true := c14
                (try (have c14b1 : decide (t218 = t222) = true := by simpa using c14))
                (try (have c14b2 : (t218 == t222) = true := by simpa using c14))
                clear c14
                by_cases c15 : ([] : List Int).length + l1.length < 17592186044416
                · rw [if_pos c15] at H
                  have LMc15 := Aside0.mk c15
                  clear c15
                  obtain ⟨y223, hy223⟩ : ∃ y_ : List Int, y_ = (([] : List Int) ++ l1) := ⟨_, rfl⟩
                  replace H : ((span_Inds.f y223).bind fun t226 => ((beguinageref10_Inds.f l1).bind fun t227 => (if t226 = t227 then ((span_Blocks.f a0).bind fun t228 => ((beguinageref10_Blocks.f a0).bind fun t229 => (if t228 = t229 then ((span_Pointers.f kj3 a2).bind fun t230 => ((beguinageref10_Pointers.f kj3 a2).bind fun t233 => ((beguinagelaw00_SameInts.f kj3 t230 t233).bind fun t236 => (if t236 = true then ((span_Bytes.f (([] : List Int) ++ l1)).bind fun t240 => ((beguinageref10_Bytes.f kj3 l1).bind fun t241 => (if t240.toList = t241.toList then ((beguinagelaw10_awake.f kj3).bind fun t242 => (some t242)) else (some false)))) else (some false))))) else (some false)))) else (some false)))) = some r := by first | (rw [hy223]; with_reducible exact H) | (have H2_ := (Option.bind_some _ _).symm.trans H; rw [hy223]; with_reducible exact H2_) | (have H2_ := (Option.bind_some _ _).symm.trans H; with_reducible exact H2_) | with_reducible exact H | (rw [hy223]; exact H) | exact H
                  have Ny223 := Aside0.mk hy223
                  clear hy223
                  replace H := Option.bind_eq_some_iff.mp H
                  obtain ⟨t226, A160, H⟩ := H
                  replace H : ((beguinageref10_Inds.f l1).bind fun t227 => (if t226 = t227 then ((span_Blocks.f a0).bind fun t228 => ((beguinageref10_Blocks.f a0).bind fun t229 => (if t228 = t229 then ((span_Pointers.f kj3 a2).bind fun t230 => ((beguinageref10_Pointers.f kj3 a2).bind fun t233 => ((beguinagelaw00_SameInts.f kj3 t230 t233).bind fun t236 => (if t236 = true then ((span_Bytes.f (([] : List Int) ++ l1)).bind fun t240 => ((beguinageref10_Bytes.f kj3 l1).bind fun t241 => (if t240.toList = t241.toList then ((beguinagelaw10_awake.f kj3).bind fun t242 => (some t242)) else (some false)))) else (some false))))) else (some false)))) else (some false))) = some r := H
                  have A16 := Aside0.mk A160
                  clear A160
                  replace H := Option.bind_eq_some_iff.mp H
                  obtain ⟨t227, A170, H⟩ := H
                  replace H : (if t226 = t227 then ((span_Blocks.f a0).bind fun t228 => ((beguinageref10_Blocks.f a0).bind fun t229 => (if t228 = t229 then ((span_Pointers.f kj3 a2).bind fun t230 => ((beguinageref10_Pointers.f kj3 a2).bind fun t233 => ((beguinagelaw00_SameInts.f kj3 t230 t233).bind fun t236 => (if t236 = true then ((span_Bytes.f (([] : List Int) ++ l1)).bind fun t240 => ((beguinageref10_Bytes.f kj3 l1).bind fun t241 => (if t240.toList = t241.toList then ((beguinagelaw10_awake.f kj3).bind fun t242 => (some t242)) else (some false)))) else (some false))))) else (some false)))) else (some false)) = some r := H
                  have A17 := Aside0.mk A170
                  clear A170
                  by_cases c18 : t226 = t227
                  · rw [if_pos c18] at H
                    have c18b0 : (t226 == t227) = true := beq_iff_eq.mpr c18
                    have c18b1 : (t226 != t227) = false := bne_eq_false_iff_eq.mpr c18
                    clear c18
                    replace H := Option.bind_eq_some_iff.mp H
                    obtain ⟨t228, A190, H⟩ := H
                    replace H : ((beguinageref10_Blocks.f a0).bind fun t229 => (if t228 = t229 then ((span_Pointers.f kj3 a2).bind fun t230 => ((beguinageref10_Pointers.f kj3 a2).bind fun t233 => ((beguinagelaw00_SameInts.f kj3 t230 t233).bind fun t236 => (if t236 = true then ((span_Bytes.f (([] : List Int) ++ l1)).bind fun t240 => ((beguinageref10_Bytes.f kj3 l1).bind fun t241 => (if t240.toList = t241.toList then ((beguinagelaw10_awake.f kj3).bind fun t242 => (some t242)) else (some false)))) else (some false))))) else (some false))) = some r := H
                    have A19 := Aside0.mk A190
                    clear A190
                    replace H := Option.bind_eq_some_iff.mp H
                    obtain ⟨t229, A200, H⟩ := H
                    replace H : (if t228 = t229 then ((span_Pointers.f kj3 a2).bind fun t230 => ((beguinageref10_Pointers.f kj3 a2).bind fun t233 => ((beguinagelaw00_SameInts.f kj3 t230 t233).bind fun t236 => (if t236 = true then ((span_Bytes.f (([] : List Int) ++ l1)).bind fun t240 => ((beguinageref10_Bytes.f kj3 l1).bind fun t241 => (if t240.toList = t241.toList then ((beguinagelaw10_awake.f kj3).bind fun t242 => (some t242)) else (some false)))) else (some false))))) else (some false)) = some r := H
                    have A20 := Aside0.mk A200
                    clear A200
                    by_cases c21 : t228 = t229
                    · rw [if_pos c21] at H
                      have c21b0 : (t228 == t229) = true := beq_iff_eq.mpr c21
                      have c21b1 : (t228 != t229) = false := bne_eq_false_iff_eq.mpr c21
                      clear c21
                      replace H := Option.bind_eq_some_iff.mp H
                      obtain ⟨t230, A220, H⟩ := H
                      replace H : ((beguinageref10_Pointers.f kj3 a2).bind fun t233 => ((beguinagelaw00_SameInts.f kj3 t230 t233).bind fun t236 => (if t236 = true then ((span_Bytes.f (([] : List Int) ++ l1)).bind fun t240 => ((beguinageref10_Bytes.f kj3 l1).bind fun t241 => (if t240.toList = t241.toList then ((beguinagelaw10_awake.f kj3).bind fun t242 => (some t242)) else (some false)))) else (some false)))) = some r := H
                      have A22 := Aside0.mk A220
                      clear A220
                      replace H := Option.bind_eq_some_iff.mp H
                      obtain ⟨t233, A230, H⟩ := H
                      replace H : ((beguinagelaw00_SameInts.f kj3 t230 t233).bind fun t236 => (if t236 = true then ((span_Bytes.f (([] : List Int) ++ l1)).bind fun t240 => ((beguinageref10_Bytes.f kj3 l1).bind fun t241 => (if t240.toList = t241.toList then ((beguinagelaw10_awake.f kj3).bind fun t242 => (some t242)) else (some false)))) else (some false))) = some r := H
                      have A23 := Aside0.mk A230
                      clear A230
                      replace H := Option.bind_eq_some_iff.mp H
                      obtain ⟨t236, A240, H⟩ := H
                      replace H : (if t236 = true then ((span_Bytes.f (([] : List Int) ++ l1)).bind fun t240 => ((beguinageref10_Bytes.f kj3 l1).bind fun t241 => (if t240.toList = t241.toList then ((beguinagelaw10_awake.f kj3).bind fun t242 => (some t242)) else (some false)))) else (some false)) = some r := H
                      have A24 := Aside0.mk A240
                      clear A240
                      by_cases c25 : t236 = true
                      · subst c25
                        have H1 : ((span_Bytes.f (([] : List Int) ++ l1)).bind fun t240 => ((beguinageref10_Bytes.f kj3 l1).bind fun t241 => (if t240.toList = t241.toList then ((beguinagelaw10_awake.f kj3).bind fun t242 => (some t242)) else (some false)))) = some r := by rw [if_pos rfl] at H; exact H
                        clear H
                        have H := H1
                        clear H1
                        obtain ⟨y237, hy237⟩ : ∃ y_ : List Int, y_ = (([] : List Int) ++ l1) := ⟨_, rfl⟩
                        replace H : ((span_Bytes.f y237).bind fun t240 => ((beguinageref10_Bytes.f kj3 l1).bind fun t241 => (if t240.toList = t241.toList then ((beguinagelaw10_awake.f kj3).bind fun t242 => (some t242)) else (some false)))) = some r := by first | (rw [hy237]; with_reducible exact H) | (have H2_ := (Option.bind_some _ _).symm.trans H; rw [hy237]; with_reducible exact H2_) | (have H2_ := (Option.bind_some _ _).symm.trans H; with_reducible exact H2_) | with_reducible exact H | (rw [hy237]; exact H) | exact H
                        have Ny237 := Aside0.mk hy237
                        clear hy237
                        replace H := Option.bind_eq_some_iff.mp H
                        obtain ⟨t240, A260, H⟩ := H
                        replace H : ((beguinageref10_Bytes.f kj3 l1).bind fun t241 => (if t240.toList = t241.toList then ((beguinagelaw10_awake.f kj3).bind fun t242 => (some t242)) else (some false))) = some r := H
                        have A26 := Aside0.mk A260
                        clear A260
                        replace H := Option.bind_eq_some_iff.mp H
                        obtain ⟨t241, A270, H⟩ := H
                        replace H : (if t240.toList = t241.toList then ((beguinagelaw10_awake.f kj3).bind fun t242 => (some t242)) else (some false)) = some r := H
                        have A27 := Aside0.mk A270
                        clear A270
                        by_cases c28 : t240.toList = t241.toList
                        · rw [if_pos c28] at H
                          have c28b0 : (t240.toList == t241.toList) = true := beq_iff_eq.mpr c28
                          have c28b1 : (t240.toList != t241.toList) = false := bne_eq_false_iff_eq.mpr c28
                          clear c28
                          replace H := Option.bind_eq_some_iff.mp H
                          obtain ⟨t242, A290, H⟩ := H
                          replace H : (some t242) = some r := H
                          have A29 := Aside0.mk A290
                          clear A290
                          obtain rfl := Option.some.inj H
                          go_wp2_with (first | ((with_reducible refine gate_callee (f := 20) rfl ?_); refine goesL_ (some 26) rfl rfl Try.func20 (by kernel_rfl) rfl #[.int .i64 a0] rfl (by (try simp only [List.map_toArray, List.map_cons, List.map_nil]); first | done | rfl | (simp only [List.length_drop, List.length_take]; rfl)) ?_; (with_reducible refine (span_Way.calls kj3 a0 t215 t216 t217 t218 _ A9.out).mono ?_); rintro e w30 ⟨rfl, hb⟩; refine ⟨_, rfl, ?_⟩; have n0_ := Aside0.mk (below_step (by repeat (first | (with_reducible first | exact HB.out | apply below_alloc | apply pw_below_drewN | apply below_drew1) | exact HB.out)) hb); clear HB; have HB := n0_; clear n0_; (try clear hb); (try clear hb2); (try clear hk); (try clear hi)) | ((with_reducible refine gate_callee (f := 25) rfl ?_); refine goesL_ (some 33) rfl rfl Try.func25 (by kernel_rfl) rfl #[.int .i64 a0] rfl (by (try simp only [List.map_toArray, List.map_cons, List.map_nil]); first | done | rfl | (simp only [List.length_drop, List.length_take]; rfl)) ?_; (with_reducible refine (beguinageref10_Way.calls kj3 a0 t219 t220 t221 t222 _ A10.out).mono ?_); rintro e w' ⟨rfl, ⟨nd, rfl⟩⟩; refine ⟨_, rfl, ?_⟩) | ((with_reducible refine gate_builtin (b := .append) (xs := #[.const (.slice none 0 0), .tmp 57]) rfl ?_); (try (refine gate_guard (by rfl) ?_; dsimp only)); at_builtin; refine Kd.R_append_rows (Kd.int .i64) (w0 := w) w.heap.size rfl (.const (.slice none 0 0)) (.tmp 57) 22 3 (.int .i64 0) 8 rfl Try.underlying22 info3 rfl (by decide) (by omega) (.slice none 0 0) ([] : List Int) l1 _ _ _ (fun _ => True) (fun _ => False) rfl rfl ?aO ?aR (fun _ _ h => h) (fun _ h => h.elim) ?aF ?aB ?aS ?aL ?_; (case aR => repeat (first | exact (Kd.C_below HR1.out (by repeat (first | (with_reducible first | exact HB.out | apply below_alloc | apply pw_below_drewN | apply below_drew1) | exact HB.out))) | (with_reducible refine Kd.C_alloc ?_ _) | (with_reducible refine Kd.C_drewN ?_ _) | (with_reducible refine Kd.C_drew ?_))); (case aB => exact (by repeat (first | (with_reducible first | exact HB.out | apply below_alloc | apply pw_below_drewN | apply below_drew1) | exact HB.out))); (case aF => exact (fun _ _ => trivial)); (case aO => exact ((Kd.R_nil _ _ _ _ (fun _ => True)))); (case aS => exact (below_size (by repeat (first | (with_reducible first | exact HB.out | apply below_alloc | apply pw_below_drewN | apply below_drew1) | exact HB.out)))); (case aL => have := LMc15.out; omega); intro v224 w31 ho hb hg hat; rw [← Ny223.out] at ho; have n0_ := Aside0.mk (hb); have n1_ := Aside0.mk (ho); clear HB; have HB := n0_; have HO225 := n1_; clear n0_ n1_; clear ho hb hg hat; obtain ⟨Ao32, co32, eo32⟩ := Kd.R_slice HO225.out; subst eo32) | (go_at_call 19; (with_reducible refine (span_Inds.calls _ _ y223 t226 _ ?side1 ?side2 A16.out).mono ?_); (case side1 => repeat (first | exact (Kd.R_reads' HO225.out).2.2 | (with_reducible refine Kd.C_alloc ?_ _) | (with_reducible refine Kd.C_drewN ?_ _) | (with_reducible refine Kd.C_drew ?_))); (case side2 => exact (Kd.R_reads' HO225.out).2.1); rintro e w33 ⟨rfl, hb⟩; have n0_ := Aside0.mk (Kd.R_below (by (with_reducible repeat (first | apply Kd.R_alloc | apply Kd.R_drewN | apply Kd.R_drew)); exact HO225.out) hb); have n1_ := Aside0.mk (below_step (by repeat (first | (with_reducible first | exact HB.out | apply below_alloc | apply pw_below_drewN | apply below_drew1) | exact HB.out)) hb); clear HO225; clear HB; have HO225 := n0_; have HB := n1_; clear n0_ n1_; (try clear hb); (try clear hb2); (try clear hk); (try clear hi)) | (go_at_call 26; (with_reducible refine (beguinageref10_Inds.calls _ _ l1 t227 _ ?side1 ?side2 A17.out).mono ?_); (case side1 => repeat (first | exact (Kd.C_below HR1.out HB.out) | (with_reducible refine Kd.C_alloc ?_ _) | (with_reducible refine Kd.C_drewN ?_ _) | (with_reducible refine Kd.C_drew ?_))); (case side2 => exact HC1.out); rintro e w34 ⟨rfl, hb⟩; have n0_ := Aside0.mk (Kd.R_below (by (with_reducible repeat (first | apply Kd.R_alloc | apply Kd.R_drewN | apply Kd.R_drew)); exact HO225.out) hb); have n1_ := Aside0.mk (below_step (by repeat (first | (with_reducible first | exact HB.out | apply below_alloc | apply pw_below_drewN | apply below_drew1) | exact HB.out)) hb); clear HO225; clear HB; have HO225 := n0_; have HB := n1_; clear n0_ n1_; (try clear hb); (try clear hb2); (try clear hk); (try clear hi)) | (go_at_call 21; (with_reducible refine (span_Blocks.calls a0 t228 _ A19.out).mono ?_); rintro e w35 ⟨rfl, hb⟩; have n0_ := Aside0.mk (Kd.R_below (by (with_reducible repeat (first | apply Kd.R_alloc | apply Kd.R_drewN | apply Kd.R_drew)); exact HO225.out) hb); have n1_ := Aside0.mk (below_step (by repeat (first | (with_reducible first | exact HB.out | apply below_alloc | apply pw_below_drewN | apply below_drew1) | exact HB.out)) hb); clear HO225; clear HB; have HO225 := n0_; have HB := n1_; clear n0_ n1_; (try clear hb); (try clear hb2); (try clear hk); (try clear hi)) | (go_at_call 27; (with_reducible refine (beguinageref10_Blocks.calls a0 t229 _ A20.out).mono ?_); rintro e w36 ⟨rfl, hb⟩; have n0_ := Aside0.mk (Kd.R_below (by (with_reducible repeat (first | apply Kd.R_alloc | apply Kd.R_drewN | apply Kd.R_drew)); exact HO225.out) hb); have n1_ := Aside0.mk (below_step (by repeat (first | (with_reducible first | exact HB.out | apply below_alloc | apply pw_below_drewN | apply below_drew1) | exact HB.out)) hb); clear HO225; clear HB; have HO225 := n0_; have HB := n1_; clear n0_ n1_; (try clear hb); (try clear hb2); (try clear hk); (try clear hi)) | (go_at_call 23; (with_reducible refine (span_Pointers.calls kj3 a2 t230 _ A22.out).mono ?_); rintro e w37 ⟨v231, rfl, ho0, hb⟩; have n0_ := Aside0.mk (Kd.R_elder' (by (with_reducible repeat (first | apply Kd.R_alloc | apply Kd.R_drewN | apply Kd.R_drew)); exact HO225.out) (Kd.R_base ho0) hb); have n1_ := Aside0.mk (Kd.R_lower (Kd.R_new' ho0 (Kd.R_lt (by (with_reducible repeat (first | apply Kd.R_alloc | apply Kd.R_drewN | apply Kd.R_drew)); exact HO225.out))) (below_size (by repeat (first | (with_reducible first | exact HB.out | apply below_alloc | apply pw_below_drewN | apply below_drew1) | exact HB.out)))); have n2_ := Aside0.mk (below_step (by repeat (first | (with_reducible first | exact HB.out | apply below_alloc | apply pw_below_drewN | apply below_drew1) | exact HB.out)) hb); clear HO225; clear HB; have HO225 := n0_; have HO232 := n1_; have HB := n2_; clear n0_ n1_ n2_; (try clear hb); (try clear hb2); (try clear hk); (try clear hi); (try clear ho0)) | (go_at_call 28; (with_reducible refine (beguinageref10_Pointers.calls kj3 a2 t233 _ A23.out).mono ?_); rintro e w38 ⟨v234, rfl, ho0, hb⟩; have n0_ := Aside0.mk (Kd.R_elder' (by (with_reducible repeat (first | apply Kd.R_alloc | apply Kd.R_drewN | apply Kd.R_drew)); exact HO225.out) (Kd.R_base ho0) hb); have n1_ := Aside0.mk (Kd.R_elder' (by (with_reducible repeat (first | apply Kd.R_alloc | apply Kd.R_drewN | apply Kd.R_drew)); exact HO232.out) (Kd.R_base ho0) hb); have n2_ := Aside0.mk (Kd.R_lower (Kd.R_new' (Kd.R_new' ho0 (Kd.R_lt (by (with_reducible repeat (first | apply Kd.R_alloc | apply Kd.R_drewN | apply Kd.R_drew)); exact HO225.out))) (Kd.R_lt (by (with_reducible repeat (first | apply Kd.R_alloc | apply Kd.R_drewN | apply Kd.R_drew)); exact HO232.out))) (below_size (by repeat (first | (with_reducible first | exact HB.out | apply below_alloc | apply pw_below_drewN | apply below_drew1) | exact HB.out)))); have n3_ := Aside0.mk (below_step (by repeat (first | (with_reducible first | exact HB.out | apply below_alloc | apply pw_below_drewN | apply below_drew1) | exact HB.out)) hb); clear HO225; clear HO232; clear HB; have HO225 := n0_; have HO232 := n1_; have HO235 := n2_; have HB := n3_; clear n0_ n1_ n2_ n3_; (try clear hb); (try clear hb2); (try clear hk); (try clear hi); (try clear ho0); obtain ⟨Ao39, co39, eo39⟩ := Kd.R_slice HO232.out; subst eo39; obtain ⟨Ao40, co40, eo40⟩ := Kd.R_slice HO235.out; subst eo40) | (go_at_call 22; (with_reducible refine (beguinagelaw00_SameInts.calls kj3 _ _ t230 _ _ t233 true _ ?side1 ?side2 ?side3 ?side4 A24.out).mono ?_); (case side1 => repeat (first | exact (Kd.R_reads' HO232.out).2.2 | (with_reducible refine Kd.C_alloc ?_ _) | (with_reducible refine Kd.C_drewN ?_ _) | (with_reducible refine Kd.C_drew ?_))); (case side2 => exact (Kd.R_reads' HO232.out).2.1); (case side3 => repeat (first | exact (Kd.R_reads' HO235.out).2.2 | (with_reducible refine Kd.C_alloc ?_ _) | (with_reducible refine Kd.C_drewN ?_ _) | (with_reducible refine Kd.C_drew ?_))); (case side4 => exact (Kd.R_reads' HO235.out).2.1); rintro e w' ⟨rfl, ⟨nd, rfl⟩⟩) | ((with_reducible refine gate_builtin (b := .append) (xs := #[.const (.slice none 0 0), .tmp 79]) rfl ?_); (try (refine gate_guard (by rfl) ?_; dsimp only)); at_builtin; refine Kd.R_append_rows (Kd.int .i64) (w0 := w) w.heap.size rfl (.const (.slice none 0 0)) (.tmp 79) 22 3 (.int .i64 0) 8 rfl Try.underlying22 info3 rfl (by decide) (by omega) (.slice none 0 0) ([] : List Int) l1 _ _ _ (fun k_ => some k_ ≠ (.slice Ao32 y223.length co32 : Value).ownBlock ∧ some k_ ≠ (.slice Ao39 t230.length co39 : Value).ownBlock ∧ some k_ ≠ (.slice Ao40 t233.length co40 : Value).ownBlock) (fun _ => False) rfl rfl ?aO ?aR (fun _ _ h => h) (fun _ h => h.elim) ?aF ?aB ?aS ?aL ?_; (case aR => repeat (first | exact (Kd.C_below HR1.out (by repeat (first | (with_reducible first | exact HB.out | apply below_alloc | apply pw_below_drewN | apply below_drew1) | exact HB.out))) | (with_reducible refine Kd.C_alloc ?_ _) | (with_reducible refine Kd.C_drewN ?_ _) | (with_reducible refine Kd.C_drew ?_))); (case aB => exact (by repeat (first | (with_reducible first | exact HB.out | apply below_alloc | apply pw_below_drewN | apply below_drew1) | exact HB.out))); (case aF => exact (fun k_ hk => ⟨Kd.fresh' (Kd.R_lt (by (with_reducible repeat (first | apply Kd.R_alloc | apply Kd.R_drewN | apply Kd.R_drew)); exact HO225.out)) k_ hk, Kd.fresh' (Kd.R_lt (by (with_reducible repeat (first | apply Kd.R_alloc | apply Kd.R_drewN | apply Kd.R_drew)); exact HO232.out)) k_ hk, Kd.fresh' (Kd.R_lt (by (with_reducible repeat (first | apply Kd.R_alloc | apply Kd.R_drewN | apply Kd.R_drew)); exact HO235.out)) k_ hk⟩)); (case aO => exact ((Kd.R_nil _ _ _ _ (fun k_ => some k_ ≠ (.slice Ao32 y223.length co32 : Value).ownBlock ∧ some k_ ≠ (.slice Ao39 t230.length co39 : Value).ownBlock ∧ some k_ ≠ (.slice Ao40 t233.length co40 : Value).ownBlock)))); (case aS => exact (below_size (by repeat (first | (with_reducible first | exact HB.out | apply below_alloc | apply pw_below_drewN | apply below_drew1) | exact HB.out)))); (case aL => have := LMc15.out; omega); intro v238 w41 ho hb hg hat; rw [← Ny237.out] at ho; have n0_ := Aside0.mk (Kd.R_after (Kd.R_apart_nil (by (with_reducible repeat (first | apply Kd.R_alloc | apply Kd.R_drewN | apply Kd.R_drew)); exact HO225.out)) hg hat); have n1_ := Aside0.mk (Kd.R_after (Kd.R_apart_nil (by (with_reducible repeat (first | apply Kd.R_alloc | apply Kd.R_drewN | apply Kd.R_drew)); exact HO232.out)) hg hat); have n2_ := Aside0.mk (Kd.R_after (Kd.R_apart_nil (by (with_reducible repeat (first | apply Kd.R_alloc | apply Kd.R_drewN | apply Kd.R_drew)); exact HO235.out)) hg hat); have n3_ := Aside0.mk (hb); have n4_ := Aside0.mk (ho); clear HO225; clear HO232; clear HO235; clear HB; have HO225 := n0_; have HO232 := n1_; have HO235 := n2_; have HB := n3_; have HO239 := n4_; clear n0_ n1_ n2_ n3_ n4_; clear ho hb hg hat; obtain ⟨Ao42, co42, eo42⟩ := Kd.R_slice HO239.out; subst eo42) | (go_at_call 24; (with_reducible refine (span_Bytes.calls _ _ y237 t240 _ ?side1 ?side2 A26.out).mono ?_); (case side1 => repeat (first | exact (Kd.R_reads' HO239.out).2.2 | (with_reducible refine Kd.C_alloc ?_ _) | (with_reducible refine Kd.C_drewN ?_ _) | (with_reducible refine Kd.C_drew ?_))); (case side2 => exact (Kd.R_reads' HO239.out).2.1); rintro e w43 ⟨rfl, hb⟩; have n0_ := Aside0.mk (Kd.R_below (by (with_reducible repeat (first | apply Kd.R_alloc | apply Kd.R_drewN | apply Kd.R_drew)); exact HO225.out) hb); have n1_ := Aside0.mk (Kd.R_below (by (with_reducible repeat (first | apply Kd.R_alloc | apply Kd.R_drewN | apply Kd.R_drew)); exact HO232.out) hb); have n2_ := Aside0.mk (Kd.R_below (by (with_reducible repeat (first | apply Kd.R_alloc | apply Kd.R_drewN | apply Kd.R_drew)); exact HO235.out) hb); have n3_ := Aside0.mk (Kd.R_below (by (with_reducible repeat (first | apply Kd.R_alloc | apply Kd.R_drewN | apply Kd.R_drew)); exact HO239.out) hb); have n4_ := Aside0.mk (below_step (by repeat (first | (with_reducible first | exact HB.out | apply below_alloc | apply pw_below_drewN | apply below_drew1) | exact HB.out)) hb); clear HO225; clear HO232; clear HO235; clear HO239; clear HB; have HO225 := n0_; have HO232 := n1_; have HO235 := n2_; have HO239 := n3_; have HB := n4_; clear n0_ n1_ n2_ n3_ n4_; (try clear hb); (try clear hb2); (try clear hk); (try clear hi)) | (go_at_call 29; (with_reducible refine (beguinageref10_Bytes.calls kj3 _ _ l1 t241 _ ?side1 ?side2 A27.out).mono ?_); (case side1 => repeat (first | exact (Kd.C_below HR1.out HB.out) | (with_reducible refine Kd.C_alloc ?_ _) | (with_reducible refine Kd.C_drewN ?_ _) | (with_reducible refine Kd.C_drew ?_))); (case side2 => exact HC1.out); rintro e w44 ⟨rfl, hb⟩; have n0_ := Aside0.mk (Kd.R_below (by (with_reducible repeat (first | apply Kd.R_alloc | apply Kd.R_drewN | apply Kd.R_drew)); exact HO225.out) hb); have n1_ := Aside0.mk (Kd.R_below (by (with_reducible repeat (first | apply Kd.R_alloc | apply Kd.R_drewN | apply Kd.R_drew)); exact HO232.out) hb); have n2_ := Aside0.mk (Kd.R_below (by (with_reducible repeat (first | apply Kd.R_alloc | apply Kd.R_drewN | apply Kd.R_drew)); exact HO235.out) hb); have n3_ := Aside0.mk (Kd.R_below (by (with_reducible repeat (first | apply Kd.R_alloc | apply Kd.R_drewN | apply Kd.R_drew)); exact HO239.out) hb); have n4_ := Aside0.mk (below_step (by repeat (first | (with_reducible first | exact HB.out | apply below_alloc | apply pw_below_drewN | apply below_drew1) | exact HB.out)) hb); clear HO225; clear HO232; clear HO235; clear HO239; clear HB; have HO225 := n0_; have HO232 := n1_; have HO235 := n2_; have HO239 := n3_; have HB := n4_; clear n0_ n1_ n2_ n3_ n4_; (try clear hb); (try clear hb2); (try clear hk); (try clear hi)) | (go_at_call 18; (with_reducible refine (beguinagelaw10_awake.calls kj3  t242 _ A29.out).mono ?_); rintro e w45 ⟨rfl, hb⟩; have n0_ := Aside0.mk (Kd.R_below (by (with_reducible repeat (first | apply Kd.R_alloc | apply Kd.R_drewN | apply Kd.R_drew)); exact HO225.out) hb); have n1_ := Aside0.mk (Kd.R_below (by (with_reducible repeat (first | apply Kd.R_alloc | apply Kd.R_drewN | apply Kd.R_drew)); exact HO232.out) hb); have n2_ := Aside0.mk (Kd.R_below (by (with_reducible repeat (first | apply Kd.R_alloc | apply Kd.R_drewN | apply Kd.R_drew)); exact HO235.out) hb); have n3_ := Aside0.mk (Kd.R_below (by (with_reducible repeat (first | apply Kd.R_alloc | apply Kd.R_drewN | apply Kd.R_drew)); exact HO239.out) hb); have n4_ := Aside0.mk (below_step (by repeat (first | (with_reducible first | exact HB.out | apply below_alloc | apply pw_below_drewN | apply below_drew1) | exact HB.out)) hb); clear HO225; clear HO232; clear HO235; clear HO239; clear HB; have HO225 := n0_; have HO232 := n1_; have HO235 := n2_; have HO239 := n3_; have HB := n4_; clear n0_ n1_ n2_ n3_ n4_; (try clear hb); (try clear hb2); (try clear hk); (try clear hi)))
                          go_ret
                          exact ⟨by first | rfl | (simp [errW_none, errW_some] <;> rfl) | (simp [*, errW_none, errW_some] <;> rfl), by repeat (first | (with_reducible first | exact HB.out | apply below_alloc | apply pw_below_drewN | apply below_drew1) | exact HB.out)⟩
                        · rw [if_neg c28] at H
                          have c28b0 : (t240.toList == t241.toList) = false := beq_eq_false_iff_ne.mpr c28
                          have c28b1 : (t240.toList != t241.toList) = true := bne_iff_ne.mpr c28
                          obtain rfl := Option.some.inj H
                          exact absurd hr_.out (by simp)
                      · replace c25 := Bool.eq_false_iff.mpr c25
                        subst c25
                        have H1 : (some false) = some r := by rw [if_neg (show ¬ (false = true) by decide)] at H; exact H
                        clear H
                        have H := H1
                        clear H1
                        obtain rfl := Option.some.inj H
                        exact absurd hr_.out (by simp)
                    · rw [if_neg c21] at H
                      have c21b0 : (t228 == t229) = false := beq_eq_false_iff_ne.mpr c21
                      have c21b1 : (t228 != t229) = true := bne_iff_ne.mpr c21
                      obtain rfl := Option.some.inj H
                      exact absurd hr_.out (by simp)
                  · rw [if_neg c18] at H
                    have c18b0 : (t226 == t227) = false := beq_eq_false_iff_ne.mpr c18
                    have c18b1 : (t226 != t227) = true := bne_iff_ne.mpr c18
                    obtain rfl := Option.some.inj H
                    exact absurd hr_.out (by simp)
                · rw [if_neg c15] at H
                  exact absurd H (by simp)
              · rw [if_neg c14] at H
                have c14b0 : (t218 == t222) = false := by simpa using c14
                (try (have c14b1 : decide (t218 = t222) = false := by simpa using c14))
                (try (have c14b2 : (t218 == t222) = false := by simpa using c14))
                (try (have c14b3 : ¬ (t218 = t222) := by simpa using c14))
                clear c14
                obtain rfl := Option.some.inj H
                exact absurd hr_.out (by simp)
            · rw [if_neg c13] at H
              have c13b0 : (t217 == t221) = false := beq_eq_false_iff_ne.mpr c13
              have c13b1 : (t217 != t221) = true := bne_iff_ne.mpr c13
              obtain rfl := Option.some.inj H
              exact absurd hr_.out (by simp)
          · rw [if_neg c12] at H
            have c12b0 : (t216 == t220) = false := beq_eq_false_iff_ne.mpr c12
            have c12b1 : (t216 != t220) = true := bne_iff_ne.mpr c12
            obtain rfl := Option.some.inj H
            exact absurd hr_.out (by simp)
        · rw [if_neg c11] at H
          have c11b0 : (t215 == t219) = false := beq_eq_false_iff_ne.mpr c11
          have c11b1 : (t215 != t219) = true := bne_iff_ne.mpr c11
          obtain rfl := Option.some.inj H
          exact absurd hr_.out (by simp)

/-- THE ONE PURE STATEMENT of beguinagelaw10_SpanAll: yours. -/
def beguinagelaw10_SpanAll.Pure : Prop := ∀ (a0 : Int) (l1 : List Int) (a2 : ByteArray), (Lit.int .i64 a0).wf = true → l1.length ≤ maxLen → l1.length * 8 ≤ 140737488351232 → (∀ x ∈ l1, (Lit.int .i64 x).wf = true) → a2.size ≤ 140737488351232 → ∃ k, beguinagelaw10_SpanAll.f k a0 l1 a2 = some true
theorem beguinagelaw10_SpanAll.walk (P : beguinagelaw10_SpanAll.Pure) (a0 : Int) (a1 : Option Addr) (len1 cap1 : Nat) (z1 : List Int) (a2 : ByteArray) (w : World) (w0 : (Lit.int .i64 a0).wf = true) (w1 : (a1 = none ∧ len1 = 0 ∧ cap1 = 0 ∧ z1 = []) ∨ ∃ x, a1 = some x ∧ len1 ≤ cap1 ∧ cap1 ≤ maxLen ∧ z1.length = cap1 ∧ (∀ i, i < z1.length → w.cell? (x.add i) = some (.int .i64 (z1.getD i 0))) ∧ ∀ n ∈ z1, (Lit.int .i64 n).wf = true) (y1 : len1 * 8 ≤ 140737488351232) (w2 : a2.size ≤ 140737488351232) :
    Calls Try.prog 7 #[.int .i64 a0, .slice a1 len1 cap1, .string a2] w fun e w' => e = .returned (.bool true) ∧ Below w.heap.size w w' := by
  obtain ⟨l1, rfl, hr1, hm1, hw1, hc1⟩ := ReadsInt.ofRowC w1
  obtain ⟨k, h⟩ := P a0 l1 a2 w0 hm1 y1 hw1 w2
  refine (beguinagelaw10_SpanAll.calls k a0 _ _ l1 a2 true w (Kd.C_of_reads (d := (0 : Int)) (h1 := fun _ => rfl) hr1) hc1 h ⟨rfl⟩).mono ?_
  rintro e w' ⟨rfl, hd⟩
  exact ⟨rfl, hd⟩

end Go.Proofs.Ytbdghlneiblkcaa.PSpan
