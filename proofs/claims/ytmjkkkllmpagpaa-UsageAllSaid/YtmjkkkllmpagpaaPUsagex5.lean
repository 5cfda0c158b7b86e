-- Written by wip/pr.py, a program of this session's own that drives the kit's printer: not a text of print.sh.
import Derived.Test.YtmjkkkllmpagpaaPUsagex0
import Derived.Test.YtmjkkkllmpagpaaPUsagex3
import Derived.Test.YtmjkkkllmpagpaaPUsagex4
namespace Go.Proofs.Ytmjkkkllmpagpaa.PUsage
open Go.RowKit Go.Proofs.YtmjkkkllmpagpaaW.PrintWords Go.Proofs.YtmjkkkllmpagpaaW.PrintLast Go.Proofs.YtmjkkkllmpagpaaW.PrintMore
attribute [local go_sem] max2_int min2_int max_two min_two max_three min_three max_four min_four   -- for this text's walks alone
set_option linter.unusedVariables false
set_option linter.unusedSimpArgs false

/-! ### beguinagelaw19_awake: function 20 -/
def beguinagelaw19_awake.f (k : Nat)  : Option (Bool) := (usage_Pick.f k 32 (([(⟨31, 0, false⟩ : S36), (⟨1, 0, false⟩ : S36), (⟨0, 0, true⟩ : S36)] : List (S36)))).bind fun bt121 => ((usage_Better.f 32 1 0 false 31 0 false).bind fun t123 => (if t123 = true then (if bt121.2 = true then (some (bt121.1 == 1)) else (some false)) else (some false)))
theorem beguinagelaw19_awake.mono : ∀ k, LeO (beguinagelaw19_awake.f k ) (beguinagelaw19_awake.f (k + 1) ) := by
  intro  k
  unfold beguinagelaw19_awake.f
  repeat' first
      | (with_reducible exact usage_Pick.mono _ _ _)
      | (with_reducible exact LeO.refl _)
      | (with_reducible exact LeO.none _)
      | (with_reducible refine LeO.ite ?_ ?_)
      | (with_reducible refine LeO.bind ?_ (fun _ => ?_))
      | exact usage_Pick.mono _ _ _
      | exact LeO.none _
      | refine LeO.ite ?_ ?_
      | refine LeO.bind ?_ (fun _ => ?_)
set_option maxHeartbeats 8000000 in
set_option maxRecDepth 100000 in
theorem beguinagelaw19_awake.calls (k : Nat)  (r : Bool) (w : World) (h : beguinagelaw19_awake.f k  = some r) :
    Calls Try.prog 20 #[] w fun e w' => e = .returned (.bool r) ∧ Below w.heap.size w w' := by
  have hu36 := Try.underlying36
  have HB := Aside0.mk (Below.refl w.heap.size w)
  have H : ((usage_Pick.f k 32 (([(⟨31, 0, false⟩ : S36), (⟨1, 0, false⟩ : S36), (⟨0, 0, true⟩ : S36)] : List (S36)))).bind fun bt121 => ((usage_Better.f 32 1 0 false 31 0 false).bind fun t123 => (if t123 = true then (if bt121.2 = true then (some (bt121.1 == 1)) else (some false)) else (some false)))) = some r := h
  clear h
  obtain ⟨y118, hy118⟩ : ∃ y_ : List (S36), y_ = (([(⟨31, 0, false⟩ : S36), (⟨1, 0, false⟩ : S36), (⟨0, 0, true⟩ : S36)] : List (S36))) := ⟨_, rfl⟩
  replace H : ((usage_Pick.f k 32 y118).bind fun bt121 => ((usage_Better.f 32 1 0 false 31 0 false).bind fun t123 => (if t123 = true then (if bt121.2 = true then (some (bt121.1 == 1)) else (some false)) else (some false)))) = some r := by first | (rw [hy118]; with_reducible exact H) | (have H2_ := (Option.bind_some _ _).symm.trans H; rw [hy118]; with_reducible exact H2_) | (have H2_ := (Option.bind_some _ _).symm.trans H; with_reducible exact H2_) | with_reducible exact H | (rw [hy118]; exact H) | exact H
  have Ny118 := Aside0.mk hy118
  clear hy118
  replace H := Option.bind_eq_some_iff.mp H
  obtain ⟨⟨t121, t122⟩, A10, H⟩ := H
  replace H : ((usage_Better.f 32 1 0 false 31 0 false).bind fun t123 => (if t123 = true then (if t122 = true then (some (t121 == 1)) else (some false)) else (some false))) = some r := H
  have A1 := Aside0.mk A10
  clear A10
  replace H := Option.bind_eq_some_iff.mp H
  obtain ⟨t123, A20, H⟩ := H
  replace H : (if t123 = true then (if t122 = true then (some (t121 == 1)) else (some false)) else (some false)) = some r := H
  have A2 := Aside0.mk A20
  clear A20
  by_cases c3 : t123 = true
  · subst c3
    have H1 : (if t122 = true then (some (t121 == 1)) else (some false)) = some r := by rw [if_pos rfl] at H; exact H
    clear H
    have H := H1
    clear H1
    by_cases c4 : t122 = true
    · subst c4
      have H1 : (some (t121 == 1)) = some r := by rw [if_pos rfl] at H; exact H
      clear H
      have H := H1
      clear H1
      obtain rfl := Option.some.inj H
      go_enter Try.func20, Try.ntmps20
      go_wp2_with (first | ((with_reducible refine gate_dst (N := 7) rfl ?_); refine Kd.R_lit k36 _ 36 ?hg (N := 7) ?hd (xs := ([(⟨31, 0, false⟩ : S36), (⟨1, 0, false⟩ : S36), (⟨0, 0, true⟩ : S36)] : List (S36))) (inner := [.int .i64 31, .int .i64 0, .bool false, .int .i64 1, .int .i64 0, .bool false, .int .i64 0, .int .i64 0, .bool true]) (ok := fun _ => True) (okp := fun _ => True) ?hr ?hp (fun _ hk => hk) trivial (Below.refl _ _) (Nat.le_refl _) (by simp) ?_; (case hd => rfl); (case hg => rfl); (case hr => first | (go_simp; done) | (go_simp; rfl)); (case hp => exact (Reps.c3 (show Kd.M k36 _ _ _ (⟨31, 0, false⟩ : S36) [.int .i64 31, .int .i64 0, .bool false] from (k36_mkM _ _ _ (⟨31, 0, false⟩ : S36) )) (Reps.c3 (show Kd.M k36 _ _ _ (⟨1, 0, false⟩ : S36) [.int .i64 1, .int .i64 0, .bool false] from (k36_mkM _ _ _ (⟨1, 0, false⟩ : S36) )) (Reps.c3 (show Kd.M k36 _ _ _ (⟨0, 0, true⟩ : S36) [.int .i64 0, .int .i64 0, .bool true] from (k36_mkM _ _ _ (⟨0, 0, true⟩ : S36) )) (Reps.none _ _))))); intro v119 w5 ho6 hb hg_ hnew_; clear hg_ hnew_; (first | rw [← Ny118.out] at ho6 | (simp only [Int.reduceToNat] at ho6; rw [← Ny118.out] at ho6)); have n0_ := Aside0.mk (Kd.R_lower ho6 (below_size (by repeat (first | (with_reducible first | exact HB.out | apply below_alloc | apply pw_below_drewN | apply below_drew1) | exact HB.out)))); have n1_ := Aside0.mk (below_step (by repeat (first | (with_reducible first | exact HB.out | apply below_alloc | apply pw_below_drewN | apply below_drew1) | exact HB.out)) hb); clear HB; have HO120 := n0_; have HB := n1_; clear n0_ n1_; clear hb ho6; obtain ⟨Ao7, co7, eo7⟩ := Kd.R_slice HO120.out; subst eo7) | ((with_reducible refine gate_callee (f := 23) rfl ?_); refine goesL_ (some 8) rfl rfl Try.func23 (by kernel_rfl) rfl #[.int .i64 32, .slice Ao7 y118.length co7] rfl (by (try simp only [List.map_toArray, List.map_cons, List.map_nil]); first | done | rfl | (simp only [List.length_drop, List.length_take]; rfl)) ?_; (with_reducible refine (usage_Pick.calls k 32 _ _ y118 t121 true _ ?side1 ?side2 A1.out).mono ?_); (case side1 => repeat (first | exact (Kd.R_reads' HO120.out).2.2 | (with_reducible refine Kd.C_alloc ?_ _) | (with_reducible refine Kd.C_drewN ?_ _) | (with_reducible refine Kd.C_drew ?_))); (case side2 => exact (Kd.R_reads' HO120.out).2.1); rintro e w8 ⟨rfl, hb⟩; refine ⟨_, rfl, ?_⟩; have n0_ := Aside0.mk (Kd.R_below (by (with_reducible repeat (first | apply Kd.R_alloc | apply Kd.R_drewN | apply Kd.R_drew)); exact HO120.out) hb); have n1_ := Aside0.mk (below_step (by repeat (first | (with_reducible first | exact HB.out | apply below_alloc | apply pw_below_drewN | apply below_drew1) | exact HB.out)) hb); clear HO120; clear HB; have HO120 := n0_; have HB := n1_; clear n0_ n1_; (try clear hb); (try clear hb2); (try clear hk); (try clear hi)) | ((with_reducible refine gate_callee (f := 21) rfl ?_); refine goesL_ (some 13) rfl rfl Try.func21 (by kernel_rfl) rfl #[.int .i64 32, .agg #[.int .i64 1, .int .i64 0, .bool false], .agg #[.int .i64 31, .int .i64 0, .bool false]] rfl (by (try simp only [List.map_toArray, List.map_cons, List.map_nil]); first | done | rfl | (simp only [List.length_drop, List.length_take]; rfl)) ?_; (with_reducible refine (usage_Better.calls 32 1 0 false 31 0 false true _ A2.out).mono ?_); rintro e w9 ⟨rfl, hb⟩; refine ⟨_, rfl, ?_⟩; have n0_ := Aside0.mk (Kd.R_below (by (with_reducible repeat (first | apply Kd.R_alloc | apply Kd.R_drewN | apply Kd.R_drew)); exact HO120.out) hb); have n1_ := Aside0.mk (below_step (by repeat (first | (with_reducible first | exact HB.out | apply below_alloc | apply pw_below_drewN | apply below_drew1) | exact HB.out)) hb); clear HO120; clear HB; have HO120 := n0_; have HB := n1_; clear n0_ n1_; (try clear hb); (try clear hb2); (try clear hk); (try clear hi)))
      go_ret
      exact ⟨by first | rfl | (simp [errW_none, errW_some] <;> rfl) | (simp [*, errW_none, errW_some] <;> rfl), by repeat (first | (with_reducible first | exact HB.out | apply below_alloc | apply pw_below_drewN | apply below_drew1) | exact HB.out)⟩
    · replace c4 := Bool.eq_false_iff.mpr c4
      subst c4
      have H1 : (some false) = some r := by rw [if_neg (show ¬ (false = true) by decide)] at H; exact H
      clear H
      have H := H1
      clear H1
      obtain rfl := Option.some.inj H
      go_enter Try.func20, Try.ntmps20
      go_wp2_with (first | ((with_reducible refine gate_dst (N := 7) rfl ?_); refine Kd.R_lit k36 _ 36 ?hg (N := 7) ?hd (xs := ([(⟨31, 0, false⟩ : S36), (⟨1, 0, false⟩ : S36), (⟨0, 0, true⟩ : S36)] : List (S36))) (inner := [.int .i64 31, .int .i64 0, .bool false, .int .i64 1, .int .i64 0, .bool false, .int .i64 0, .int .i64 0, .bool true]) (ok := fun _ => True) (okp := fun _ => True) ?hr ?hp (fun _ hk => hk) trivial (Below.refl _ _) (Nat.le_refl _) (by simp) ?_; (case hd => rfl); (case hg => rfl); (case hr => first | (go_simp; done) | (go_simp; rfl)); (case hp => exact (Reps.c3 (show Kd.M k36 _ _ _ (⟨31, 0, false⟩ : S36) [.int .i64 31, .int .i64 0, .bool false] from (k36_mkM _ _ _ (⟨31, 0, false⟩ : S36) )) (Reps.c3 (show Kd.M k36 _ _ _ (⟨1, 0, false⟩ : S36) [.int .i64 1, .int .i64 0, .bool false] from (k36_mkM _ _ _ (⟨1, 0, false⟩ : S36) )) (Reps.c3 (show Kd.M k36 _ _ _ (⟨0, 0, true⟩ : S36) [.int .i64 0, .int .i64 0, .bool true] from (k36_mkM _ _ _ (⟨0, 0, true⟩ : S36) )) (Reps.none _ _))))); intro v119 w10 ho11 hb hg_ hnew_; clear hg_ hnew_; (first | rw [← Ny118.out] at ho11 | (simp only [Int.reduceToNat] at ho11; rw [← Ny118.out] at ho11)); have n0_ := Aside0.mk (Kd.R_lower ho11 (below_size (by repeat (first | (with_reducible first | exact HB.out | apply below_alloc | apply pw_below_drewN | apply below_drew1) | exact HB.out)))); have n1_ := Aside0.mk (below_step (by repeat (first | (with_reducible first | exact HB.out | apply below_alloc | apply pw_below_drewN | apply below_drew1) | exact HB.out)) hb); clear HB; have HO120 := n0_; have HB := n1_; clear n0_ n1_; clear hb ho11; obtain ⟨Ao12, co12, eo12⟩ := Kd.R_slice HO120.out; subst eo12) | ((with_reducible refine gate_callee (f := 23) rfl ?_); refine goesL_ (some 8) rfl rfl Try.func23 (by kernel_rfl) rfl #[.int .i64 32, .slice Ao12 y118.length co12] rfl (by (try simp only [List.map_toArray, List.map_cons, List.map_nil]); first | done | rfl | (simp only [List.length_drop, List.length_take]; rfl)) ?_; (with_reducible refine (usage_Pick.calls k 32 _ _ y118 t121 false _ ?side1 ?side2 A1.out).mono ?_); (case side1 => repeat (first | exact (Kd.R_reads' HO120.out).2.2 | (with_reducible refine Kd.C_alloc ?_ _) | (with_reducible refine Kd.C_drewN ?_ _) | (with_reducible refine Kd.C_drew ?_))); (case side2 => exact (Kd.R_reads' HO120.out).2.1); rintro e w13 ⟨rfl, hb⟩; refine ⟨_, rfl, ?_⟩; have n0_ := Aside0.mk (Kd.R_below (by (with_reducible repeat (first | apply Kd.R_alloc | apply Kd.R_drewN | apply Kd.R_drew)); exact HO120.out) hb); have n1_ := Aside0.mk (below_step (by repeat (first | (with_reducible first | exact HB.out | apply below_alloc | apply pw_below_drewN | apply below_drew1) | exact HB.out)) hb); clear HO120; clear HB; have HO120 := n0_; have HB := n1_; clear n0_ n1_; (try clear hb); (try clear hb2); (try clear hk); (try clear hi)) | ((with_reducible refine gate_callee (f := 21) rfl ?_); refine goesL_ (some 13) rfl rfl Try.func21 (by kernel_rfl) rfl #[.int .i64 32, .agg #[.int .i64 1, .int .i64 0, .bool false], .agg #[.int .i64 31, .int .i64 0, .bool false]] rfl (by (try simp only [List.map_toArray, List.map_cons, List.map_nil]); first | done | rfl | (simp only [List.length_drop, List.length_take]; rfl)) ?_; (with_reducible refine (usage_Better.calls 32 1 0 false 31 0 false true _ A2.out).mono ?_); rintro e w14 ⟨rfl, hb⟩; refine ⟨_, rfl, ?_⟩; have n0_ := Aside0.mk (Kd.R_below (by (with_reducible repeat (first | apply Kd.R_alloc | apply Kd.R_drewN | apply Kd.R_drew)); exact HO120.out) hb); have n1_ := Aside0.mk (below_step (by repeat (first | (with_reducible first | exact HB.out | apply below_alloc | apply pw_below_drewN | apply below_drew1) | exact HB.out)) hb); clear HO120; clear HB; have HO120 := n0_; have HB := n1_; clear n0_ n1_; (try clear hb); (try clear hb2); (try clear hk); (try clear hi)))
      go_ret
      exact ⟨by first | rfl | (simp [errW_none, errW_some] <;> rfl) | (simp [*, errW_none, errW_some] <;> rfl), by repeat (first | (with_reducible first | exact HB.out | apply below_alloc | apply pw_below_drewN | apply below_drew1) | exact HB.out)⟩
  · replace c3 := Bool.eq_false_iff.mpr c3
    subst c3
    have H1 : (some false) = some r := by rw [if_neg (show ¬ (false = true) by decide)] at H; exact H
    clear H
    have H := H1
    clear H1
    obtain rfl := Option.some.inj H
    go_enter Try.func20, Try.ntmps20
    go_wp2_with (first | ((with_reducible refine gate_dst (N := 7) rfl ?_); refine Kd.R_lit k36 _ 36 ?hg (N := 7) ?hd (xs := ([(⟨31, 0, false⟩ : S36), (⟨1, 0, false⟩ : S36), (⟨0, 0, true⟩ : S36)] : List (S36))) (inner := [.int .i64 31, .int .i64 0, .bool false, .int .i64 1, .int .i64 0, .bool false, .int .i64 0, .int .i64 0, .bool true]) (ok := fun _ => True) (okp := fun _ => True) ?hr ?hp (fun _ hk => hk) trivial (Below.refl _ _) (Nat.le_refl _) (by simp) ?_; (case hd => rfl); (case hg => rfl); (case hr => first | (go_simp; done) | (go_simp; rfl)); (case hp => exact (Reps.c3 (show Kd.M k36 _ _ _ (⟨31, 0, false⟩ : S36) [.int .i64 31, .int .i64 0, .bool false] from (k36_mkM _ _ _ (⟨31, 0, false⟩ : S36) )) (Reps.c3 (show Kd.M k36 _ _ _ (⟨1, 0, false⟩ : S36) [.int .i64 1, .int .i64 0, .bool false] from (k36_mkM _ _ _ (⟨1, 0, false⟩ : S36) )) (Reps.c3 (show Kd.M k36 _ _ _ (⟨0, 0, true⟩ : S36) [.int .i64 0, .int .i64 0, .bool true] from (k36_mkM _ _ _ (⟨0, 0, true⟩ : S36) )) (Reps.none _ _))))); intro v119 w15 ho16 hb hg_ hnew_; clear hg_ hnew_; (first | rw [← Ny118.out] at ho16 | (simp only [Int.reduceToNat] at ho16; rw [← Ny118.out] at ho16)); have n0_ := Aside0.mk (Kd.R_lower ho16 (below_size (by repeat (first | (with_reducible first | exact HB.out | apply below_alloc | apply pw_below_drewN | apply below_drew1) | exact HB.out)))); have n1_ := Aside0.mk (below_step (by repeat (first | (with_reducible first | exact HB.out | apply below_alloc | apply pw_below_drewN | apply below_drew1) | exact HB.out)) hb); clear HB; have HO120 := n0_; have HB := n1_; clear n0_ n1_; clear hb ho16; obtain ⟨Ao17, co17, eo17⟩ := Kd.R_slice HO120.out; subst eo17) | ((with_reducible refine gate_callee (f := 23) rfl ?_); refine goesL_ (some 8) rfl rfl Try.func23 (by kernel_rfl) rfl #[.int .i64 32, .slice Ao17 y118.length co17] rfl (by (try simp only [List.map_toArray, List.map_cons, List.map_nil]); first | done | rfl | (simp only [List.length_drop, List.length_take]; rfl)) ?_; (with_reducible refine (usage_Pick.calls k 32 _ _ y118 t121 t122 _ ?side1 ?side2 A1.out).mono ?_); (case side1 => repeat (first | exact (Kd.R_reads' HO120.out).2.2 | (with_reducible refine Kd.C_alloc ?_ _) | (with_reducible refine Kd.C_drewN ?_ _) | (with_reducible refine Kd.C_drew ?_))); (case side2 => exact (Kd.R_reads' HO120.out).2.1); rintro e w18 ⟨rfl, hb⟩; refine ⟨_, rfl, ?_⟩; have n0_ := Aside0.mk (Kd.R_below (by (with_reducible repeat (first | apply Kd.R_alloc | apply Kd.R_drewN | apply Kd.R_drew)); exact HO120.out) hb); have n1_ := Aside0.mk (below_step (by repeat (first | (with_reducible first | exact HB.out | apply below_alloc | apply pw_below_drewN | apply below_drew1) | exact HB.out)) hb); clear HO120; clear HB; have HO120 := n0_; have HB := n1_; clear n0_ n1_; (try clear hb); (try clear hb2); (try clear hk); (try clear hi)) | ((with_reducible refine gate_callee (f := 21) rfl ?_); refine goesL_ (some 13) rfl rfl Try.func21 (by kernel_rfl) rfl #[.int .i64 32, .agg #[.int .i64 1, .int .i64 0, .bool false], .agg #[.int .i64 31, .int .i64 0, .bool false]] rfl (by (try simp only [List.map_toArray, List.map_cons, List.map_nil]); first | done | rfl | (simp only [List.length_drop, List.length_take]; rfl)) ?_; (with_reducible refine (usage_Better.calls 32 1 0 false 31 0 false false _ A2.out).mono ?_); rintro e w19 ⟨rfl, hb⟩; refine ⟨_, rfl, ?_⟩; have n0_ := Aside0.mk (Kd.R_below (by (with_reducible repeat (first | apply Kd.R_alloc | apply Kd.R_drewN | apply Kd.R_drew)); exact HO120.out) hb); have n1_ := Aside0.mk (below_step (by repeat (first | (with_reducible first | exact HB.out | apply below_alloc | apply pw_below_drewN | apply below_drew1) | exact HB.out)) hb); clear HO120; clear HB; have HO120 := n0_; have HB := n1_; clear n0_ n1_; (try clear hb); (try clear hb2); (try clear hk); (try clear hi)))
    go_ret
    exact ⟨by first | rfl | (simp [errW_none, errW_some] <;> rfl) | (simp [*, errW_none, errW_some] <;> rfl), by repeat (first | (with_reducible first | exact HB.out | apply below_alloc | apply pw_below_drewN | apply below_drew1) | exact HB.out)⟩

end Go.Proofs.Ytmjkkkllmpagpaa.PUsage
