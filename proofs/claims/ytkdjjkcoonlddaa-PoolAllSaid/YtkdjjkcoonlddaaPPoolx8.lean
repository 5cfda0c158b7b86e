-- Written by wip/pr.py, a program of this session's own that drives the kit's printer: not a text of print.sh.
import Derived.Test.YtkdjjkcoonlddaaPPoolx0
import Derived.Test.YtkdjjkcoonlddaaPPoolx1
import Derived.Test.YtkdjjkcoonlddaaPPoolx3
import Derived.Test.YtkdjjkcoonlddaaPPoolx4
import Derived.Test.YtkdjjkcoonlddaaPPoolx5
import Derived.Test.YtkdjjkcoonlddaaPPoolx6
import Derived.Test.YtkdjjkcoonlddaaPPoolx7
import Derived.Test.YtkdjjkcoonlddaaPoolGiven
namespace Go.Proofs.Ytkdjjkcoonlddaa.PPool
open Go.RowKit Go.Proofs.YtkdjjkcoonlddaaW.PrintWords Go.Proofs.YtkdjjkcoonlddaaW.PrintLast Go.Proofs.YtkdjjkcoonlddaaW.PrintMore
attribute [local go_sem] max2_int min2_int max_two min_two max_three min_three max_four min_four   -- for this text's walks alone
set_option linter.unusedVariables false
set_option linter.unusedSimpArgs false

/-! ### beguinagelaw12_PoolAll: function 3 -/
def beguinagelaw12_PoolAll.f (k : Nat) (a0 : Int) (l1 : List (S36)) (a2 : Int) : Option (Bool) := (beguinagelaw12_few.f k l1).bind fun t124 => (if t124 = true then ((beguinagelaw00_Place.f a0 120).bind fun t126 => ((pool_Take.f t126 l1 a2).bind fun bt127 => ((beguinageref12_Take.f k t126 l1 a2).bind fun bt131 => ((pool_Free.f t126 l1).bind fun t135 => ((beguinageref12_Free.f k t126 l1).bind fun t138 => ((beguinagelaw00_SameInts.f k t135 t138).bind fun t141 => (if t141 = true then ((beguinagelaw00_SameInts.f k bt127.1 bt131.1).bind fun t142 => (if t142 = true then (if (bt127.2 == bt131.2) = true then ((pool_Free.f (wrap64 ((-1) - t126)) l1).bind fun t143 => (if (t143.length : Int) = 0 then ((beguinagelaw12_awake.f).bind fun t146 => (some t146)) else (some false))) else (some false)) else (some false))) else (some false)))))))) else ((beguinagelaw12_awake.f).bind fun t125 => (some t125)))
theorem beguinagelaw12_PoolAll.mono : ∀ a0 a1 a2 k, LeO (beguinagelaw12_PoolAll.f k a0 a1 a2) (beguinagelaw12_PoolAll.f (k + 1) a0 a1 a2) := by
  intro a0 a1 a2 k
  unfold beguinagelaw12_PoolAll.f
  repeat' first
      | (with_reducible exact beguinagelaw00_SameInts.mono _ _ _)
      | (with_reducible exact beguinagelaw12_few.mono _ _)
      | (with_reducible exact beguinageref12_Free.mono _ _ _)
      | (with_reducible exact beguinageref12_Take.mono _ _ _ _)
      | (with_reducible exact LeO.refl _)
      | (with_reducible exact LeO.none _)
      | (with_reducible refine LeO.ite ?_ ?_)
      | (with_reducible refine LeO.bind ?_ (fun _ => ?_))
      | exact beguinagelaw00_SameInts.mono _ _ _
      | exact beguinagelaw12_few.mono _ _
      | exact beguinageref12_Free.mono _ _ _
      | exact beguinageref12_Take.mono _ _ _ _
      | exact LeO.none _
      | refine LeO.ite ?_ ?_
      | refine LeO.bind ?_ (fun _ => ?_)
set_option maxHeartbeats 8000000 in
set_option maxRecDepth 100000 in
theorem beguinagelaw12_PoolAll.calls (k : Nat) (a0 : Int) (A1 : Option Addr) (c1 : Nat) (l1 : List (S36)) (a2 : Int) (r : Bool) (w : World) (hr1 : Kd.C k36 w A1 l1.length l1) (hc1 : l1.length ≤ c1) (h : beguinagelaw12_PoolAll.f k a0 l1 a2 = some r) (hr_ : Aside0 (r = true)) :
    Calls Try.prog 3 #[.int .i64 a0, .slice A1 l1.length c1, .int .i64 a2] w fun e w' => e = .returned (.bool r) ∧ Below w.heap.size w w' := by
  have HR1 := Aside0.mk hr1
  have HC1 := Aside0.mk hc1
  clear hr1 hc1
  have HB := Aside0.mk (Below.refl w.heap.size w)
  have H : ((beguinagelaw12_few.f k l1).bind fun t124 => (if t124 = true then ((beguinagelaw00_Place.f a0 120).bind fun t126 => ((pool_Take.f t126 l1 a2).bind fun bt127 => ((beguinageref12_Take.f k t126 l1 a2).bind fun bt131 => ((pool_Free.f t126 l1).bind fun t135 => ((beguinageref12_Free.f k t126 l1).bind fun t138 => ((beguinagelaw00_SameInts.f k t135 t138).bind fun t141 => (if t141 = true then ((beguinagelaw00_SameInts.f k bt127.1 bt131.1).bind fun t142 => (if t142 = true then (if (bt127.2 == bt131.2) = true then ((pool_Free.f (wrap64 ((-1) - t126)) l1).bind fun t143 => (if (t143.length : Int) = 0 then ((beguinagelaw12_awake.f).bind fun t146 => (some t146)) else (some false))) else (some false)) else (some false))) else (some false)))))))) else ((beguinagelaw12_awake.f).bind fun t125 => (some t125)))) = some r := h
  clear h
  replace H := Option.bind_eq_some_iff.mp H
  obtain ⟨t124, A40, H⟩ := H
  replace H : (if t124 = true then ((beguinagelaw00_Place.f a0 120).bind fun t126 => ((pool_Take.f t126 l1 a2).bind fun bt127 => ((beguinageref12_Take.f k t126 l1 a2).bind fun bt131 => ((pool_Free.f t126 l1).bind fun t135 => ((beguinageref12_Free.f k t126 l1).bind fun t138 => ((beguinagelaw00_SameInts.f k t135 t138).bind fun t141 => (if t141 = true then ((beguinagelaw00_SameInts.f k bt127.1 bt131.1).bind fun t142 => (if t142 = true then (if (bt127.2 == bt131.2) = true then ((pool_Free.f (wrap64 ((-1) - t126)) l1).bind fun t143 => (if (t143.length : Int) = 0 then ((beguinagelaw12_awake.f).bind fun t146 => (some t146)) else (some false))) else (some false)) else (some false))) else (some false)))))))) else ((beguinagelaw12_awake.f).bind fun t125 => (some t125))) = some r := H
  have A4 := Aside0.mk A40
  clear A40
  by_cases c5 : t124 = true
  · subst c5
    have H1 : ((beguinagelaw00_Place.f a0 120).bind fun t126 => ((pool_Take.f t126 l1 a2).bind fun bt127 => ((beguinageref12_Take.f k t126 l1 a2).bind fun bt131 => ((pool_Free.f t126 l1).bind fun t135 => ((beguinageref12_Free.f k t126 l1).bind fun t138 => ((beguinagelaw00_SameInts.f k t135 t138).bind fun t141 => (if t141 = true then ((beguinagelaw00_SameInts.f k bt127.1 bt131.1).bind fun t142 => (if t142 = true then (if (bt127.2 == bt131.2) = true then ((pool_Free.f (wrap64 ((-1) - t126)) l1).bind fun t143 => (if (t143.length : Int) = 0 then ((beguinagelaw12_awake.f).bind fun t146 => (some t146)) else (some false))) else (some false)) else (some false))) else (some false)))))))) = some r := by rw [if_pos rfl] at H; exact H
    clear H
    have H := H1
    clear H1
    replace H := Option.bind_eq_some_iff.mp H
    obtain ⟨t126, A60, H⟩ := H
    replace H : ((pool_Take.f t126 l1 a2).bind fun bt127 => ((beguinageref12_Take.f k t126 l1 a2).bind fun bt131 => ((pool_Free.f t126 l1).bind fun t135 => ((beguinageref12_Free.f k t126 l1).bind fun t138 => ((beguinagelaw00_SameInts.f k t135 t138).bind fun t141 => (if t141 = true then ((beguinagelaw00_SameInts.f k bt127.1 bt131.1).bind fun t142 => (if t142 = true then (if (bt127.2 == bt131.2) = true then ((pool_Free.f (wrap64 ((-1) - t126)) l1).bind fun t143 => (if (t143.length : Int) = 0 then ((beguinagelaw12_awake.f).bind fun t146 => (some t146)) else (some false))) else (some false)) else (some false))) else (some false))))))) = some r := H
    have A6 := Aside0.mk A60
    clear A60
    replace H := Option.bind_eq_some_iff.mp H
    obtain ⟨⟨t127, t130⟩, A70, H⟩ := H
    replace H : ((beguinageref12_Take.f k t126 l1 a2).bind fun bt131 => ((pool_Free.f t126 l1).bind fun t135 => ((beguinageref12_Free.f k t126 l1).bind fun t138 => ((beguinagelaw00_SameInts.f k t135 t138).bind fun t141 => (if t141 = true then ((beguinagelaw00_SameInts.f k t127 bt131.1).bind fun t142 => (if t142 = true then (if (t130 == bt131.2) = true then ((pool_Free.f (wrap64 ((-1) - t126)) l1).bind fun t143 => (if (t143.length : Int) = 0 then ((beguinagelaw12_awake.f).bind fun t146 => (some t146)) else (some false))) else (some false)) else (some false))) else (some false)))))) = some r := H
    have A7 := Aside0.mk A70
    clear A70
    replace H := Option.bind_eq_some_iff.mp H
    obtain ⟨⟨t131, t132⟩, A80, H⟩ := H
    replace H : ((pool_Free.f t126 l1).bind fun t135 => ((beguinageref12_Free.f k t126 l1).bind fun t138 => ((beguinagelaw00_SameInts.f k t135 t138).bind fun t141 => (if t141 = true then ((beguinagelaw00_SameInts.f k t127 t131).bind fun t142 => (if t142 = true then (if (t130 == t132) = true then ((pool_Free.f (wrap64 ((-1) - t126)) l1).bind fun t143 => (if (t143.length : Int) = 0 then ((beguinagelaw12_awake.f).bind fun t146 => (some t146)) else (some false))) else (some false)) else (some false))) else (some false))))) = some r := H
    have A8 := Aside0.mk A80
    clear A80
    replace H := Option.bind_eq_some_iff.mp H
    obtain ⟨t135, A90, H⟩ := H
    replace H : ((beguinageref12_Free.f k t126 l1).bind fun t138 => ((beguinagelaw00_SameInts.f k t135 t138).bind fun t141 => (if t141 = true then ((beguinagelaw00_SameInts.f k t127 t131).bind fun t142 => (if t142 = true then (if (t130 == t132) = true then ((pool_Free.f (wrap64 ((-1) - t126)) l1).bind fun t143 => (if (t143.length : Int) = 0 then ((beguinagelaw12_awake.f).bind fun t146 => (some t146)) else (some false))) else (some false)) else (some false))) else (some false)))) = some r := H
    have A9 := Aside0.mk A90
    clear A90
    replace H := Option.bind_eq_some_iff.mp H
    obtain ⟨t138, A100, H⟩ := H
    replace H : ((beguinagelaw00_SameInts.f k t135 t138).bind fun t141 => (if t141 = true then ((beguinagelaw00_SameInts.f k t127 t131).bind fun t142 => (if t142 = true then (if (t130 == t132) = true then ((pool_Free.f (wrap64 ((-1) - t126)) l1).bind fun t143 => (if (t143.length : Int) = 0 then ((beguinagelaw12_awake.f).bind fun t146 => (some t146)) else (some false))) else (some false)) else (some false))) else (some false))) = some r := H
    have A10 := Aside0.mk A100
    clear A100
    replace H := Option.bind_eq_some_iff.mp H
    obtain ⟨t141, A110, H⟩ := H
    replace H : (if t141 = true then ((beguinagelaw00_SameInts.f k t127 t131).bind fun t142 => (if t142 = true then (if (t130 == t132) = true then ((pool_Free.f (wrap64 ((-1) - t126)) l1).bind fun t143 => (if (t143.length : Int) = 0 then ((beguinagelaw12_awake.f).bind fun t146 => (some t146)) else (some false))) else (some false)) else (some false))) else (some false)) = some r := H
    have A11 := Aside0.mk A110
    clear A110
    by_cases c12 : t141 = true
    · subst c12
      have H1 : ((beguinagelaw00_SameInts.f k t127 t131).bind fun t142 => (if t142 = true then (if (t130 == t132) = true then ((pool_Free.f (wrap64 ((-1) - t126)) l1).bind fun t143 => (if (t143.length : Int) = 0 then ((beguinagelaw12_awake.f).bind fun t146 => (some t146)) else (some false))) else (some false)) else (some false))) = some r := by rw [if_pos rfl] at H; exact H
      clear H
      have H := H1
      clear H1
      replace H := Option.bind_eq_some_iff.mp H
      obtain ⟨t142, A130, H⟩ := H
      replace H : (if t142 = true then (if (t130 == t132) = true then ((pool_Free.f (wrap64 ((-1) - t126)) l1).bind fun t143 => (if (t143.length : Int) = 0 then ((beguinagelaw12_awake.f).bind fun t146 => (some t146)) else (some false))) else (some false)) else (some false)) = some r := H
      have A13 := Aside0.mk A130
      clear A130
      by_cases c14 : t142 = true
      · subst c14
        have H1 : (if (t130 == t132) = true then ((pool_Free.f (wrap64 ((-1) - t126)) l1).bind fun t143 => (if (t143.length : Int) = 0 then ((beguinagelaw12_awake.f).bind fun t146 => (some t146)) else (some false))) else (some false)) = some r := by rw [if_pos rfl] at H; exact H
        clear H
        have H := H1
        clear H1
        by_cases c15 : (t130 == t132) = true
        · rw [if_pos c15] at H
          have c15b0 : (t130 == t132) = true := c15
          (try (have c15b1 : decide (t130 = t132) = true := by simpa using c15))
          (try (have c15b2 : (t130 == t132) = true := by simpa using c15))
          clear c15
          replace H := Option.bind_eq_some_iff.mp H
          obtain ⟨t143, A160, H⟩ := H
          replace H : (if (t143.length : Int) = 0 then ((beguinagelaw12_awake.f).bind fun t146 => (some t146)) else (some false)) = some r := H
          have A16 := Aside0.mk A160
          clear A160
          by_cases c17 : (t143.length : Int) = 0
          · rw [if_pos c17] at H
            have c17b0 : ((t143.length : Int) == 0) = true := beq_iff_eq.mpr c17
            have c17b1 : ((t143.length : Int) != 0) = false := bne_eq_false_iff_eq.mpr c17
            clear c17
            replace H := Option.bind_eq_some_iff.mp H
            obtain ⟨t146, A180, H⟩ := H
            replace H : (some t146) = some r := H
            have A18 := Aside0.mk A180
            clear A180
            obtain rfl := Option.some.inj H
            go_enter Try.func3, Try.ntmps3
            go_wp2_with (first | ((with_reducible refine gate_callee (f := 15) rfl ?_); refine goesL_ (some 13) rfl rfl Try.func15 (by kernel_rfl) rfl #[.slice A1 l1.length c1] rfl (by (try simp only [List.map_toArray, List.map_cons, List.map_nil]); first | done | rfl | (simp only [List.length_drop, List.length_take]; rfl)) ?_; (with_reducible refine (beguinagelaw12_few.calls k _ _ l1 true _ ?side1 ?side2 A4.out).mono ?_); (case side1 => repeat (first | exact HR1.out | (with_reducible refine Kd.C_alloc ?_ _) | (with_reducible refine Kd.C_drewN ?_ _) | (with_reducible refine Kd.C_drew ?_))); (case side2 => exact HC1.out); rintro e w' ⟨rfl, ⟨nd, rfl⟩⟩; refine ⟨_, rfl, ?_⟩) | ((with_reducible refine gate_callee (f := 17) rfl ?_); refine goesL_ (some 17) rfl rfl Try.func17 (by kernel_rfl) rfl #[.int .i64 a0, .int .i64 120] rfl (by (try simp only [List.map_toArray, List.map_cons, List.map_nil]); first | done | rfl | (simp only [List.length_drop, List.length_take]; rfl)) ?_; (with_reducible refine (beguinagelaw00_Place.calls a0 120 t126 _ A6.out).mono ?_); rintro e w' ⟨rfl, ⟨nd, rfl⟩⟩; refine ⟨_, rfl, ?_⟩) | ((with_reducible refine gate_callee (f := 18) rfl ?_); refine goesL_ (some 22) rfl rfl Try.func18 (by kernel_rfl) rfl #[.int .i64 t126, .slice A1 l1.length c1, .int .i64 a2] rfl (by (try simp only [List.map_toArray, List.map_cons, List.map_nil]); first | done | rfl | (simp only [List.length_drop, List.length_take]; rfl)) ?_; (with_reducible refine (pool_Take.calls t126 _ _ l1 a2 t127 t130 _ ?side1 ?side2 A7.out).mono ?_); (case side1 => repeat (first | exact HR1.out | (with_reducible refine Kd.C_alloc ?_ _) | (with_reducible refine Kd.C_drewN ?_ _) | (with_reducible refine Kd.C_drew ?_))); (case side2 => exact HC1.out); rintro e w19 ⟨v128, rfl, ho0, hb⟩; refine ⟨_, rfl, ?_⟩; have n0_ := Aside0.mk (Kd.V_lower (Kd.V_mono (ok' := fun k_ => True) ho0 (fun k_ hk_ => trivial)) (below_size (by repeat (first | (with_reducible first | exact HB.out | apply below_alloc | apply pw_below_drewN | apply below_drew1) | exact HB.out)))); have n1_ := Aside0.mk (below_step (by repeat (first | (with_reducible first | exact HB.out | apply below_alloc | apply pw_below_drewN | apply below_drew1) | exact HB.out)) hb); clear HB; have HO129 := n0_; have HB := n1_; clear n0_ n1_; (try clear hb); (try clear hb2); (try clear hk); (try clear hi); (try clear ho0)) | ((with_reducible refine gate_callee (f := 19) rfl ?_); refine goesL_ (some 29) rfl rfl Try.func19 (by kernel_rfl) rfl #[.int .i64 t126, .slice A1 l1.length c1, .int .i64 a2] rfl (by (try simp only [List.map_toArray, List.map_cons, List.map_nil]); first | done | rfl | (simp only [List.length_drop, List.length_take]; rfl)) ?_; (with_reducible refine (beguinageref12_Take.calls k t126 _ _ l1 a2 t131 t132 _ ?side1 ?side2 A8.out).mono ?_); (case side1 => repeat (first | exact (Kd.C_below HR1.out HB.out) | (with_reducible refine Kd.C_alloc ?_ _) | (with_reducible refine Kd.C_drewN ?_ _) | (with_reducible refine Kd.C_drew ?_))); (case side2 => exact HC1.out); rintro e w20 ⟨v133, rfl, ho0, hb⟩; refine ⟨_, rfl, ?_⟩; have n0_ := Aside0.mk (Kd.V_elder' (by (with_reducible repeat (first | apply Kd.V_alloc | apply Kd.V_drewN | apply Kd.V_drew)); exact HO129.out) (Kd.R_base ho0) hb); have n1_ := Aside0.mk (Kd.R_lower ho0 (below_size (by repeat (first | (with_reducible first | exact HB.out | apply below_alloc | apply pw_below_drewN | apply below_drew1) | exact HB.out)))); have n2_ := Aside0.mk (below_step (by repeat (first | (with_reducible first | exact HB.out | apply below_alloc | apply pw_below_drewN | apply below_drew1) | exact HB.out)) hb); clear HO129; clear HB; have HO129 := n0_; have HO134 := n1_; have HB := n2_; clear n0_ n1_ n2_; (try clear hb); (try clear hb2); (try clear hk); (try clear hi); (try clear ho0)) | ((with_reducible refine gate_callee (f := 21) rfl ?_); refine goesL_ (some 34) rfl rfl Try.func21 (by kernel_rfl) rfl #[.int .i64 t126, .slice A1 l1.length c1] rfl (by (try simp only [List.map_toArray, List.map_cons, List.map_nil]); first | done | rfl | (simp only [List.length_drop, List.length_take]; rfl)) ?_; (with_reducible refine (pool_Free.calls t126 _ _ l1 t135 _ ?side1 ?side2 A9.out).mono ?_); (case side1 => repeat (first | exact (Kd.C_below HR1.out HB.out) | (with_reducible refine Kd.C_alloc ?_ _) | (with_reducible refine Kd.C_drewN ?_ _) | (with_reducible refine Kd.C_drew ?_))); (case side2 => exact HC1.out); rintro e w21 ⟨v136, rfl, ho0, hb⟩; refine ⟨_, rfl, ?_⟩; have n0_ := Aside0.mk (Kd.V_elder' (by (with_reducible repeat (first | apply Kd.V_alloc | apply Kd.V_drewN | apply Kd.V_drew)); exact HO129.out) (Kd.R_base ho0) hb); have n1_ := Aside0.mk (Kd.R_elder' (by (with_reducible repeat (first | apply Kd.R_alloc | apply Kd.R_drewN | apply Kd.R_drew)); exact HO134.out) (Kd.R_base ho0) hb); have n2_ := Aside0.mk (Kd.R_lower (Kd.R_new' ho0 (Kd.R_lt (by (with_reducible repeat (first | apply Kd.R_alloc | apply Kd.R_drewN | apply Kd.R_drew)); exact HO134.out))) (below_size (by repeat (first | (with_reducible first | exact HB.out | apply below_alloc | apply pw_below_drewN | apply below_drew1) | exact HB.out)))); have n3_ := Aside0.mk (below_step (by repeat (first | (with_reducible first | exact HB.out | apply below_alloc | apply pw_below_drewN | apply below_drew1) | exact HB.out)) hb); clear HO129; clear HO134; clear HB; have HO129 := n0_; have HO134 := n1_; have HO137 := n2_; have HB := n3_; clear n0_ n1_ n2_ n3_; (try clear hb); (try clear hb2); (try clear hk); (try clear hi); (try clear ho0)) | ((with_reducible refine gate_callee (f := 22) rfl ?_); refine goesL_ (some 37) rfl rfl Try.func22 (by kernel_rfl) rfl #[.int .i64 t126, .slice A1 l1.length c1] rfl (by (try simp only [List.map_toArray, List.map_cons, List.map_nil]); first | done | rfl | (simp only [List.length_drop, List.length_take]; rfl)) ?_; (with_reducible refine (beguinageref12_Free.calls k t126 _ _ l1 t138 _ ?side1 ?side2 A10.out).mono ?_); (case side1 => repeat (first | exact (Kd.C_below HR1.out HB.out) | (with_reducible refine Kd.C_alloc ?_ _) | (with_reducible refine Kd.C_drewN ?_ _) | (with_reducible refine Kd.C_drew ?_))); (case side2 => exact HC1.out); rintro e w22 ⟨v139, rfl, ho0, hb⟩; refine ⟨_, rfl, ?_⟩; have n0_ := Aside0.mk (Kd.V_elder' (by (with_reducible repeat (first | apply Kd.V_alloc | apply Kd.V_drewN | apply Kd.V_drew)); exact HO129.out) (Kd.R_base ho0) hb); have n1_ := Aside0.mk (Kd.R_elder' (by (with_reducible repeat (first | apply Kd.R_alloc | apply Kd.R_drewN | apply Kd.R_drew)); exact HO134.out) (Kd.R_base ho0) hb); have n2_ := Aside0.mk (Kd.R_elder' (by (with_reducible repeat (first | apply Kd.R_alloc | apply Kd.R_drewN | apply Kd.R_drew)); exact HO137.out) (Kd.R_base ho0) hb); have n3_ := Aside0.mk (Kd.R_lower (Kd.R_new' (Kd.R_new' ho0 (Kd.R_lt (by (with_reducible repeat (first | apply Kd.R_alloc | apply Kd.R_drewN | apply Kd.R_drew)); exact HO134.out))) (Kd.R_lt (by (with_reducible repeat (first | apply Kd.R_alloc | apply Kd.R_drewN | apply Kd.R_drew)); exact HO137.out))) (below_size (by repeat (first | (with_reducible first | exact HB.out | apply below_alloc | apply pw_below_drewN | apply below_drew1) | exact HB.out)))); have n4_ := Aside0.mk (below_step (by repeat (first | (with_reducible first | exact HB.out | apply below_alloc | apply pw_below_drewN | apply below_drew1) | exact HB.out)) hb); clear HO129; clear HO134; clear HO137; clear HB; have HO129 := n0_; have HO134 := n1_; have HO137 := n2_; have HO140 := n3_; have HB := n4_; clear n0_ n1_ n2_ n3_ n4_; (try clear hb); (try clear hb2); (try clear hk); (try clear hi); (try clear ho0); obtain ⟨Ao23, co23, eo23⟩ := Kd.R_slice HO137.out; subst eo23; obtain ⟨Ao24, co24, eo24⟩ := Kd.R_slice HO140.out; subst eo24) | ((with_reducible refine gate_callee (f := 20) rfl ?_); refine goesL_ (some 38) rfl rfl Try.func20 (by kernel_rfl) rfl #[.slice Ao23 t135.length co23, .slice Ao24 t138.length co24] rfl (by (try simp only [List.map_toArray, List.map_cons, List.map_nil]); first | done | rfl | (simp only [List.length_drop, List.length_take]; rfl)) ?_; (with_reducible refine (beguinagelaw00_SameInts.calls k _ _ t135 _ _ t138 true _ ?side1 ?side2 ?side3 ?side4 A11.out).mono ?_); (case side1 => repeat (first | exact (Kd.R_reads' HO137.out).2.2 | (with_reducible refine Kd.C_alloc ?_ _) | (with_reducible refine Kd.C_drewN ?_ _) | (with_reducible refine Kd.C_drew ?_))); (case side2 => exact (Kd.R_reads' HO137.out).2.1); (case side3 => repeat (first | exact (Kd.R_reads' HO140.out).2.2 | (with_reducible refine Kd.C_alloc ?_ _) | (with_reducible refine Kd.C_drewN ?_ _) | (with_reducible refine Kd.C_drew ?_))); (case side4 => exact (Kd.R_reads' HO140.out).2.1); rintro e w' ⟨rfl, ⟨nd, rfl⟩⟩; refine ⟨_, rfl, ?_⟩; obtain ⟨Ao25, co25, eo25⟩ := Kd.V_slice HO129.out; subst eo25; obtain ⟨Ao26, co26, eo26⟩ := Kd.R_slice HO134.out; subst eo26) | (go_at_call 20; (with_reducible refine (beguinagelaw00_SameInts.calls k _ _ t127 _ _ t131 true _ ?side1 ?side2 ?side3 ?side4 A13.out).mono ?_); (case side1 => repeat (first | exact (Kd.V_reads' HO129.out).2.2 | (with_reducible refine Kd.C_alloc ?_ _) | (with_reducible refine Kd.C_drewN ?_ _) | (with_reducible refine Kd.C_drew ?_))); (case side2 => exact (Kd.V_reads' HO129.out).2.1); (case side3 => repeat (first | exact (Kd.R_reads' HO134.out).2.2 | (with_reducible refine Kd.C_alloc ?_ _) | (with_reducible refine Kd.C_drewN ?_ _) | (with_reducible refine Kd.C_drew ?_))); (case side4 => exact (Kd.R_reads' HO134.out).2.1); rintro e w' ⟨rfl, ⟨nd, rfl⟩⟩) | (go_at_call 21; (with_reducible refine (pool_Free.calls (wrap64 ((-1) - t126)) _ _ l1 t143 _ ?side1 ?side2 A16.out).mono ?_); (case side1 => repeat (first | exact (Kd.C_below HR1.out (by repeat (first | (with_reducible first | exact HB.out | apply below_alloc | apply pw_below_drewN | apply below_drew1) | exact HB.out))) | (with_reducible refine Kd.C_alloc ?_ _) | (with_reducible refine Kd.C_drewN ?_ _) | (with_reducible refine Kd.C_drew ?_))); (case side2 => exact HC1.out); rintro e w27 ⟨v144, rfl, ho0, hb⟩; have n0_ := Aside0.mk (Kd.V_elder' (by (with_reducible repeat (first | apply Kd.V_alloc | apply Kd.V_drewN | apply Kd.V_drew)); exact HO129.out) (Kd.R_base ho0) hb); have n1_ := Aside0.mk (Kd.R_elder' (by (with_reducible repeat (first | apply Kd.R_alloc | apply Kd.R_drewN | apply Kd.R_drew)); exact HO134.out) (Kd.R_base ho0) hb); have n2_ := Aside0.mk (Kd.R_elder' (by (with_reducible repeat (first | apply Kd.R_alloc | apply Kd.R_drewN | apply Kd.R_drew)); exact HO137.out) (Kd.R_base ho0) hb); have n3_ := Aside0.mk (Kd.R_elder' (by (with_reducible repeat (first | apply Kd.R_alloc | apply Kd.R_drewN | apply Kd.R_drew)); exact HO140.out) (Kd.R_base ho0) hb); have n4_ := Aside0.mk (Kd.R_lower (Kd.R_new' (Kd.R_new' (Kd.R_new' ho0 (Kd.R_lt (by (with_reducible repeat (first | apply Kd.R_alloc | apply Kd.R_drewN | apply Kd.R_drew)); exact HO134.out))) (Kd.R_lt (by (with_reducible repeat (first | apply Kd.R_alloc | apply Kd.R_drewN | apply Kd.R_drew)); exact HO137.out))) (Kd.R_lt (by (with_reducible repeat (first | apply Kd.R_alloc | apply Kd.R_drewN | apply Kd.R_drew)); exact HO140.out))) (below_size (by repeat (first | (with_reducible first | exact HB.out | apply below_alloc | apply pw_below_drewN | apply below_drew1) | exact HB.out)))); have n5_ := Aside0.mk (below_step (by repeat (first | (with_reducible first | exact HB.out | apply below_alloc | apply pw_below_drewN | apply below_drew1) | exact HB.out)) hb); clear HO129; clear HO134; clear HO137; clear HO140; clear HB; have HO129 := n0_; have HO134 := n1_; have HO137 := n2_; have HO140 := n3_; have HO145 := n4_; have HB := n5_; clear n0_ n1_ n2_ n3_ n4_ n5_; (try clear hb); (try clear hb2); (try clear hk); (try clear hi); (try clear ho0); obtain ⟨Ao28, co28, eo28⟩ := Kd.R_slice HO145.out; subst eo28) | (go_at_call 16; (with_reducible refine (beguinagelaw12_awake.calls  t146 _ A18.out).mono ?_); rintro e w29 ⟨rfl, hb⟩; have n0_ := Aside0.mk (Kd.V_below (by (with_reducible repeat (first | apply Kd.V_alloc | apply Kd.V_drewN | apply Kd.V_drew)); exact HO129.out) hb); have n1_ := Aside0.mk (Kd.R_below (by (with_reducible repeat (first | apply Kd.R_alloc | apply Kd.R_drewN | apply Kd.R_drew)); exact HO134.out) hb); have n2_ := Aside0.mk (Kd.R_below (by (with_reducible repeat (first | apply Kd.R_alloc | apply Kd.R_drewN | apply Kd.R_drew)); exact HO137.out) hb); have n3_ := Aside0.mk (Kd.R_below (by (with_reducible repeat (first | apply Kd.R_alloc | apply Kd.R_drewN | apply Kd.R_drew)); exact HO140.out) hb); have n4_ := Aside0.mk (Kd.R_below (by (with_reducible repeat (first | apply Kd.R_alloc | apply Kd.R_drewN | apply Kd.R_drew)); exact HO145.out) hb); have n5_ := Aside0.mk (below_step (by repeat (first | (with_reducible first | exact HB.out | apply below_alloc | apply pw_below_drewN | apply below_drew1) | exact HB.out)) hb); clear HO129; clear HO134; clear HO137; clear HO140; clear HO145; clear HB; have HO129 := n0_; have HO134 := n1_; have HO137 := n2_; have HO140 := n3_; have HO145 := n4_; have HB := n5_; clear n0_ n1_ n2_ n3_ n4_ n5_; (try clear hb); (try clear hb2); (try clear hk); (try clear hi)))
            go_ret
            exact ⟨by first | rfl | (simp [errW_none, errW_some] <;> rfl) | (simp [*, errW_none, errW_some] <;> rfl), by repeat (first | (with_reducible first | exact HB.out | apply below_alloc | apply pw_below_drewN | apply below_drew1) | exact HB.out)⟩
          · rw [if_neg c17] at H
            have c17b0 : ((t143.length : Int) == 0) = false := beq_eq_false_iff_ne.mpr c17
            have c17b1 : ((t143.length : Int) != 0) = true := bne_iff_ne.mpr c17
            have c17b2 : ¬ (t143 = []) := fun h_ => c17 (by rw [h_]; rfl)
            obtain rfl := Option.some.inj H
            exact absurd hr_.out (by simp)
        · rw [if_neg c15] at H
          have c15b0 : (t130 == t132) = false := by simpa using c15
          (try (have c15b1 : decide (t130 = t132) = false := by simpa using c15))
          (try (have c15b2 : (t130 == t132) = false := by simpa using c15))
          (try (have c15b3 : ¬ (t130 = t132) := by simpa using c15))
          clear c15
          obtain rfl := Option.some.inj H
          exact absurd hr_.out (by simp)
      · replace c14 := Bool.eq_false_iff.mpr c14
        subst c14
        have H1 : (some false) = some r := by rw [if_neg (show ¬ (false = true) by decide)] at H; exact H
        clear H
        have H := H1
        clear H1
        obtain rfl := Option.some.inj H
        exact absurd hr_.out (by simp)
    · replace c12 := Bool.eq_false_iff.mpr c12
      subst c12
      have H1 : (some false) = some r := by rw [if_neg (show ¬ (false = true) by decide)] at H; exact H
      clear H
      have H := H1
      clear H1
      obtain rfl := Option.some.inj H
      exact absurd hr_.out (by simp)
  · replace c5 := Bool.eq_false_iff.mpr c5
    subst c5
    have H1 : ((beguinagelaw12_awake.f).bind fun t125 => (some t125)) = some r := by rw [if_neg (show ¬ (false = true) by decide)] at H; exact H
    clear H
    have H := H1
    clear H1
    replace H := Option.bind_eq_some_iff.mp H
    obtain ⟨t125, A300, H⟩ := H
    replace H : (some t125) = some r := H
    have A30 := Aside0.mk A300
    clear A300
    obtain rfl := Option.some.inj H
    go_enter Try.func3, Try.ntmps3
    go_wp2_with (first | ((with_reducible refine gate_callee (f := 15) rfl ?_); refine goesL_ (some 13) rfl rfl Try.func15 (by kernel_rfl) rfl #[.slice A1 l1.length c1] rfl (by (try simp only [List.map_toArray, List.map_cons, List.map_nil]); first | done | rfl | (simp only [List.length_drop, List.length_take]; rfl)) ?_; (with_reducible refine (beguinagelaw12_few.calls k _ _ l1 false _ ?side1 ?side2 A4.out).mono ?_); (case side1 => repeat (first | exact HR1.out | (with_reducible refine Kd.C_alloc ?_ _) | (with_reducible refine Kd.C_drewN ?_ _) | (with_reducible refine Kd.C_drew ?_))); (case side2 => exact HC1.out); rintro e w' ⟨rfl, ⟨nd, rfl⟩⟩; refine ⟨_, rfl, ?_⟩) | ((with_reducible refine gate_callee (f := 16) rfl ?_); refine goesL_ (some 15) rfl rfl Try.func16 (by kernel_rfl) rfl #[] rfl (by (try simp only [List.map_toArray, List.map_cons, List.map_nil]); first | done | rfl | (simp only [List.length_drop, List.length_take]; rfl)) ?_; (with_reducible refine (beguinagelaw12_awake.calls  t125 _ A30.out).mono ?_); rintro e w31 ⟨rfl, hb⟩; refine ⟨_, rfl, ?_⟩; have n0_ := Aside0.mk (below_step (by repeat (first | (with_reducible first | exact HB.out | apply below_alloc | apply pw_below_drewN | apply below_drew1) | exact HB.out)) hb); clear HB; have HB := n0_; clear n0_; (try clear hb); (try clear hb2); (try clear hk); (try clear hi)))
    go_ret
    exact ⟨by first | rfl | (simp [errW_none, errW_some] <;> rfl) | (simp [*, errW_none, errW_some] <;> rfl), by repeat (first | (with_reducible first | exact HB.out | apply below_alloc | apply pw_below_drewN | apply below_drew1) | exact HB.out)⟩

end Go.Proofs.Ytkdjjkcoonlddaa.PPool
