/- QuotaBoth answers true for all numbers: blocks and nodes by themselves: what is too much of the one is not healed by the other. Conditions: none. -/
import Derived.Test.YtmjkkkllmpagpaaQuotaPlain
import Derived.Outline
import Derived.Deep.RegionHeld3
namespace Go.Proofs.Ytmjkkkllmpagpaa.Pure
open Go.RowKit Go.Proofs.YtmjkkkllmpagpaaW.PrintWords Go.Proofs.YtmjkkkllmpagpaaW.PrintLast Go.Proofs.YtmjkkkllmpagpaaW.PrintMore
open Go.Proofs.Ytmjkkkllmpagpaa.Aid Go.Proofs.Ytmjkkkllmpagpaa.PQuota
set_option linter.unusedVariables false
set_option linter.unusedSimpArgs false

theorem place_calls (a n : Int) (w : World) (h0 : 0 < n) (h1 : n ≤ 9223372036854775807) :
    Calls Try.prog 14 #[.int .i64 a, .int .i64 n] w fun e w' => e = .returned (.int .i64 (a % n)) ∧ Below w.heap.size w w' :=
  (beguinagelaw00_Place.calls a n (a % n) w (by unfold beguinagelaw00_Place.f; exact place a h0 h1)).mono fun e w' ⟨he, nd, hd⟩ => ⟨he, by first | (rw [hd]; exact pw_below_drewN (Below.refl _ _) nd) | (rw [← hd]; exact pw_below_drewN (Below.refl _ _) nd)⟩

theorem over_calls (v h : Int) (B0 : Nat) (w : World) (hc : w.cell? ⟨B0, 0, none⟩ = some (.int .i64 h)) (r : Int) (hr : (h < v ∧ r = 8) ∨ (¬ h < v ∧ r = 0)) :
    Calls Try.prog 32 #[.int .i64 v, .pointer (some ⟨B0, 0, none⟩)] w fun e w' => e = .returned (.int .i64 r) ∧ w = w' := by
  rcases hr with ⟨h1, rfl⟩ | ⟨h1, rfl⟩
  · go_enter Try.func32, Try.ntmps32
    go_wp2
    go_ret
    exact ⟨rfl, rfl⟩
  · go_enter Try.func32, Try.ntmps32
    go_wp2
    go_ret
    exact ⟨rfl, rfl⟩
theorem may_f (h p q r s c b n : Int) : quota_May.f 0 h h h h 0 0 p q r s c b n = some ((decide (b ≤ p) || decide (b ≤ h)) && (decide (n ≤ q) || decide (n ≤ h))) := by
  unfold quota_May.f sideMay
  congr 1
  rw [show decide ((0 : Int) < 0) = false from rfl]
  cases decide (b ≤ h) <;> cases decide (n ≤ h) <;> simp
theorem may_c (h p q b n : Int) (r : Bool) (W : World) (hr : ((b ≤ p ∨ b ≤ h) ∧ (n ≤ q ∨ n ≤ h)) ↔ r = true) :
    Calls Try.prog 29 #[.agg #[.int .i64 0, .int .i64 h, .int .i64 h, .int .i64 h, .int .i64 h, .int .i64 0, .int .i64 0], .agg #[.int .i64 p, .int .i64 q, .int .i64 0, .int .i64 0], .int .i64 5, .int .i64 b, .int .i64 n] W fun e w' => e = .returned (.bool r) ∧ Below W.heap.size W w' := by
  have e : ((decide (b ≤ p) || decide (b ≤ h)) && (decide (n ≤ q) || decide (n ≤ h))) = r := by
    rw [Bool.eq_iff_iff, ← hr]; simp
  have := quota_May.calls 0 h h h h 0 0 p q 0 0 5 b n _ W (may_f h p q 0 0 5 b n)
  rwa [e] at this
theorem since_f (h b : Int) (hb : 0 ≤ b) : sideSince (cutF 7 1099511627777) h (cutF 0 1099511627777) b = if h < b then 8 else 0 := by
  unfold sideSince
  rw [show cutF 0 1099511627777 = 0 from by decide, show mn (cutF 7 1099511627777) 1099511627776 + 1 = 8 from by decide]
  by_cases h1 : b ≤ h
  · rw [if_pos h1, if_neg (by omega)]
  · rw [if_neg h1, if_pos rfl, if_pos (by omega)]
set_option maxHeartbeats 8000000 in
set_option maxRecDepth 100000 in
theorem bothA (a0 a1 a2 : Int) (w : World) (hcb : Aside0 (( a1 % 100 ≤ 1 + a0 % 50))) (w0 : (Lit.int .i64 a0).wf = true) (w1 : (Lit.int .i64 a1).wf = true) (w2 : (Lit.int .i64 a2).wf = true) :
    Calls Try.prog 12 #[.int .i64 a0, .int .i64 a1, .int .i64 a2] w fun e w' => e = .returned (.bool true) ∧ Below w.heap.size w w' := by
  clear w0 w1 w2
  go_enter Try.func12, Try.ntmps12
  go_wp2_with fail
  refine (place_calls _ _ _ (by omega) (by omega)).mono ?_
  rintro e w1 ⟨rfl, hb1⟩
  have x0 := Int.emod_nonneg a0 (show (50 : Int) ≠ 0 by omega)
  have x1 := Int.emod_lt_of_pos a0 (show (0 : Int) < 50 by omega)
  generalize a0 % 50 = x at *
  obtain ⟨h, hh⟩ : ∃ h, 1 + x = h := ⟨_, rfl⟩
  have h1 : 1 ≤ h := by omega
  have h2 : h ≤ 50 := by omega
  have HH := Aside0.mk hh
  clear hh
  go_wp2_with fail
  rw [HH.out]
  refine (place_calls _ _ _ (by omega) (by omega)).mono ?_
  rintro e w2 ⟨rfl, hb2⟩
  obtain ⟨B0, hB0⟩ : ∃ B0, w1.heap.size = B0 := ⟨_, rfl⟩
  have hW0 : w.heap.size ≤ B0 := by have := hb1.size; omega
  have hc0 : w2.cell? ⟨B0, 0, none⟩ = some (.int .i64 h) := by
    rw [hb2.cell (by simp; omega), ← hB0]
    go_simp
  have hl : ∀ i, i < 7 → w2.cell? ⟨B0 + 1, i, none⟩ = (#[Value.int .i64 0, .int .i64 h, .int .i64 h, .int .i64 h, .int .i64 h, .int .i64 0, .int .i64 0] : Array Value)[i]? := fun i hi => by
    rw [hb2.cell (by simp; omega), ← hB0]
    rcases (by omega : i = 0 ∨ i = 1 ∨ i = 2 ∨ i = 3 ∨ i = 4 ∨ i = 5 ∨ i = 6) with rfl | rfl | rfl | rfl | rfl | rfl | rfl <;> go_simp
  have hs2 : B0 + 2 ≤ w2.heap.size := by have := hb2.size; simp at this; omega
  have HB2 : Below w.heap.size w w2 := ((hb1.alloc hb1.size _).alloc (by simp; omega) _).trans (hb2.mono (by simp; omega))
  clear hb2 hb1
  rw [hB0]
  clear hB0
  go_wp2_with fail
  refine (place_calls _ _ _ (by omega) (by omega)).mono ?_
  rintro e w3 ⟨rfl, hb3⟩
  have hs3 : B0 + 2 ≤ w3.heap.size := by have := hb3.size; omega
  replace hc0 := (hb3.cell (p := ⟨B0, 0, none⟩) (by show B0 < _; omega)).trans hc0
  have hl3 := fun i hi => (hb3.cell (p := ⟨B0 + 1, i, none⟩) (by show B0 + 1 < _; omega)).trans (hl i hi)
  have HB3 := below_step HB2 hb3
  clear hb3 HB2 hl
  have y0 := Int.emod_nonneg a1 (show (100 : Int) ≠ 0 by omega)
  have y1 := Int.emod_lt_of_pos a1 (show (0 : Int) < 100 by omega)
  have z0 := Int.emod_nonneg a2 (show (100 : Int) ≠ 0 by omega)
  have z1 := Int.emod_lt_of_pos a2 (show (0 : Int) < 100 by omega)
  generalize a1 % 100 = b at *
  generalize a2 % 100 = n at *
  have l0 := hl3 0 (by omega)
  have l1 := hl3 1 (by omega)
  have l2 := hl3 2 (by omega)
  have l3 := hl3 3 (by omega)
  have l4 := hl3 4 (by omega)
  have l5 := hl3 5 (by omega)
  have l6 := hl3 6 (by omega)
  simp at l0 l1 l2 l3 l4 l5 l6
  clear hl3
  have k0 := fun o : Obj => (World.cell?_alloc_lt w3 o ⟨B0 + 1, 0, none⟩ (by show B0 + 1 < _; omega)).trans l0
  have k1 := fun o : Obj => (World.cell?_alloc_lt w3 o ⟨B0 + 1, 1, none⟩ (by show B0 + 1 < _; omega)).trans l1
  have k2 := fun o : Obj => (World.cell?_alloc_lt w3 o ⟨B0 + 1, 2, none⟩ (by show B0 + 1 < _; omega)).trans l2
  have k3 := fun o : Obj => (World.cell?_alloc_lt w3 o ⟨B0 + 1, 3, none⟩ (by show B0 + 1 < _; omega)).trans l3
  have k4 := fun o : Obj => (World.cell?_alloc_lt w3 o ⟨B0 + 1, 4, none⟩ (by show B0 + 1 < _; omega)).trans l4
  have k5 := fun o : Obj => (World.cell?_alloc_lt w3 o ⟨B0 + 1, 5, none⟩ (by show B0 + 1 < _; omega)).trans l5
  have k6 := fun o : Obj => (World.cell?_alloc_lt w3 o ⟨B0 + 1, 6, none⟩ (by show B0 + 1 < _; omega)).trans l6
  have hu29 := Try.underlying29
  have hu53 := Try.underlying53
  go_wp2_with fail
  refine (quota_Next.calls 0 h h h h 0 0 0 0 0 0 7 b n b n _ _ _ rfl).mono ?_
  rintro e w4 ⟨rfl, hb4⟩
  rw [since_f h b y0, since_f h n z0]
  obtain ⟨sb, hsb⟩ : ∃ sb : Int, (if h < b then (8 : Int) else 0) = sb := ⟨_, rfl⟩
  obtain ⟨sn, hsn⟩ : ∃ sn : Int, (if h < n then (8 : Int) else 0) = sn := ⟨_, rfl⟩
  rw [hsb, hsn]
  have HSB : Aside0 ((h < b ∧ sb = 8) ∨ (¬ h < b ∧ sb = 0)) := ⟨by rw [← hsb]; split <;> omega⟩
  have HSN : Aside0 ((h < n ∧ sn = 8) ∨ (¬ h < n ∧ sn = 0)) := ⟨by rw [← hsn]; split <;> omega⟩
  clear hsb hsn
  have s0 : w4.cell? ⟨w3.heap.size, 0, none⟩ = some (.int .i64 0) := by rw [hb4.cell (by simp)]; go_simp
  have s1 : w4.cell? ⟨w3.heap.size, 1, none⟩ = some (.int .i64 0) := by rw [hb4.cell (by simp)]; go_simp
  have s2 : w4.cell? ⟨w3.heap.size, 2, none⟩ = some (.int .i64 0) := by rw [hb4.cell (by simp)]; go_simp
  have s3 : w4.cell? ⟨w3.heap.size, 3, none⟩ = some (.int .i64 0) := by rw [hb4.cell (by simp)]; go_simp
  replace l0 : w4.cell? ⟨B0 + 1, 0, none⟩ = _ := (hb4.cell (by simp; omega)).trans (k0 _)
  replace l1 : w4.cell? ⟨B0 + 1, 1, none⟩ = _ := (hb4.cell (by simp; omega)).trans (k1 _)
  replace l2 : w4.cell? ⟨B0 + 1, 2, none⟩ = _ := (hb4.cell (by simp; omega)).trans (k2 _)
  replace l3 : w4.cell? ⟨B0 + 1, 3, none⟩ = _ := (hb4.cell (by simp; omega)).trans (k3 _)
  replace l4 : w4.cell? ⟨B0 + 1, 4, none⟩ = _ := (hb4.cell (by simp; omega)).trans (k4 _)
  replace l5 : w4.cell? ⟨B0 + 1, 5, none⟩ = _ := (hb4.cell (by simp; omega)).trans (k5 _)
  replace l6 : w4.cell? ⟨B0 + 1, 6, none⟩ = _ := (hb4.cell (by simp; omega)).trans (k6 _)
  replace hc0 : w4.cell? ⟨B0, 0, none⟩ = _ := (hb4.cell (by simp; omega)).trans ((World.cell?_alloc_lt w3 _ ⟨B0, 0, none⟩ (by show B0 < _; omega)).trans hc0)
  have HB4 : Below w.heap.size w w4 := (HB3.alloc HB3.size _).trans (hb4.mono (by have := HB3.size; simp; omega))
  have hs4 : w3.heap.size < w4.heap.size := by have := hb4.size; simp at this; omega
  clear k0 k1 k2 k3 k4 k5 k6 hb4 HB3
  obtain ⟨B2, hB2⟩ : ∃ B2, w3.heap.size = B2 := ⟨_, rfl⟩
  rw [hB2] at s0 s1 s2 s3 hs3 hs4 ⊢
  clear hB2
  go_wp2_with fail
  have hWa : ∀ {B i : Nat} {v : Value} (o : Obj), w4.cell? ⟨B, i, none⟩ = some v → (w4.alloc o).cell? ⟨B, i, none⟩ = some v := fun o hc => (World.cell?_alloc_lt w4 o _ (World.block_lt_of_cell? w4 _ hc)).trans hc
  have x2 : (w4.alloc (.cells #[.int .i64 b, .int .i64 n, .int .i64 sb, .int .i64 sn] 53)).cell? ⟨w4.heap.size, 2, none⟩ = some (.int .i64 sb) := by go_simp
  have x3 : (w4.alloc (.cells #[.int .i64 b, .int .i64 n, .int .i64 sb, .int .i64 sn] 53)).cell? ⟨w4.heap.size, 3, none⟩ = some (.int .i64 sn) := by go_simp
  replace hc0 := hWa (.cells #[.int .i64 b, .int .i64 n, .int .i64 sb, .int .i64 sn] 53) hc0
  replace l0 := hWa (.cells #[.int .i64 b, .int .i64 n, .int .i64 sb, .int .i64 sn] 53) l0
  replace l1 := hWa (.cells #[.int .i64 b, .int .i64 n, .int .i64 sb, .int .i64 sn] 53) l1
  replace l2 := hWa (.cells #[.int .i64 b, .int .i64 n, .int .i64 sb, .int .i64 sn] 53) l2
  replace l3 := hWa (.cells #[.int .i64 b, .int .i64 n, .int .i64 sb, .int .i64 sn] 53) l3
  replace l4 := hWa (.cells #[.int .i64 b, .int .i64 n, .int .i64 sb, .int .i64 sn] 53) l4
  replace l5 := hWa (.cells #[.int .i64 b, .int .i64 n, .int .i64 sb, .int .i64 sn] 53) l5
  replace l6 := hWa (.cells #[.int .i64 b, .int .i64 n, .int .i64 sb, .int .i64 sn] 53) l6
  replace s0 := hWa (.cells #[.int .i64 b, .int .i64 n, .int .i64 sb, .int .i64 sn] 53) s0
  replace s1 := hWa (.cells #[.int .i64 b, .int .i64 n, .int .i64 sb, .int .i64 sn] 53) s1
  replace s2 := hWa (.cells #[.int .i64 b, .int .i64 n, .int .i64 sb, .int .i64 sn] 53) s2
  replace s3 := hWa (.cells #[.int .i64 b, .int .i64 n, .int .i64 sb, .int .i64 sn] 53) s3
  have HB5 : Below w.heap.size w (w4.alloc (.cells #[.int .i64 b, .int .i64 n, .int .i64 sb, .int .i64 sn] 53)) := HB4.alloc HB4.size _
  clear HB4 hWa
  obtain ⟨B3, hB3⟩ : ∃ B3, w4.heap.size = B3 := ⟨_, rfl⟩
  rw [hB3] at x2 x3 ⊢
  clear hB3
  generalize w4.alloc (.cells #[.int .i64 b, .int .i64 n, .int .i64 sb, .int .i64 sn] 53) = W5 at *
  have AW : Aside0 (∀ W : World, Calls Try.prog 31 #[] W fun e w' => e = .returned (.bool true) ∧ Below W.heap.size W w') := ⟨fun W => beguinagelaw22_awake.calls true W awake_true⟩
  have hcase : (n + 1 ≤ h ∨ (n ≤ h ∧ ¬ n + 1 ≤ h) ∨ ¬ n ≤ h) := by omega
  have cb : b ≤ h := by have := hcb.out; have := HH.out; omega
  have e0 : (sb == sb) = true := by simp
  have e1 : (sn == sn) = true := by simp
  have hw1 : IntKind.i64.wrap (b + 1) = b + 1 := by rw [IntKind.wrap_i64]; omega
  have hw2 : IntKind.i64.wrap (n + 1) = n + 1 := by rw [IntKind.wrap_i64]; omega
  rcases hcase with cn | ⟨cn, cn2⟩ | cn
  · skip
    have N1 : Aside0 (∀ W, Calls Try.prog 29 #[.agg #[.int .i64 0, .int .i64 h, .int .i64 h, .int .i64 h, .int .i64 h, .int .i64 0, .int .i64 0], .agg #[.int .i64 0, .int .i64 0, .int .i64 0, .int .i64 0], .int .i64 5, .int .i64 b, .int .i64 n] W fun e w' => e = .returned (.bool true) ∧ Below W.heap.size W w') := ⟨fun W => may_c h 0 0 b n true W (by simp; omega)⟩
    have N2 : Aside0 (∀ W, Calls Try.prog 29 #[.agg #[.int .i64 0, .int .i64 h, .int .i64 h, .int .i64 h, .int .i64 h, .int .i64 0, .int .i64 0], .agg #[.int .i64 b, .int .i64 n, .int .i64 0, .int .i64 0], .int .i64 5, .int .i64 b, .int .i64 n] W fun e w' => e = .returned (.bool true) ∧ Below W.heap.size W w') := ⟨fun W => may_c h b n b n true W (by simp)⟩
    have N3 : Aside0 (∀ W, Calls Try.prog 29 #[.agg #[.int .i64 0, .int .i64 h, .int .i64 h, .int .i64 h, .int .i64 h, .int .i64 0, .int .i64 0], .agg #[.int .i64 (b + 1), .int .i64 n, .int .i64 0, .int .i64 0], .int .i64 5, .int .i64 b, .int .i64 n] W fun e w' => e = .returned (.bool true) ∧ Below W.heap.size W w') := ⟨fun W => may_c h (b + 1) n b n true W (by simp; omega)⟩
    have N4 : Aside0 (∀ W, Calls Try.prog 29 #[.agg #[.int .i64 0, .int .i64 h, .int .i64 h, .int .i64 h, .int .i64 h, .int .i64 0, .int .i64 0], .agg #[.int .i64 b, .int .i64 n, .int .i64 0, .int .i64 0], .int .i64 5, .int .i64 b, .int .i64 (n + 1)] W fun e w' => e = .returned (.bool true) ∧ Below W.heap.size W w') := ⟨fun W => may_c h b n b (n + 1) true W (by simp; omega)⟩
    have f1 : decide (b ≤ h) = true := decide_eq_true cb
    have f2 : decide (n ≤ h) = true := decide_eq_true (by omega)
    have f3 : decide (n + 1 ≤ h) = true := decide_eq_true (by omega)
    simp only [List.append_eq, List.cons_append, List.nil_append]
    go_region_held3 (fun W => W.cell? ⟨B0, 0, none⟩ = some (.int .i64 h) ∧ W.cell? ⟨B0 + 1, 0, none⟩ = some (.int .i64 0) ∧ W.cell? ⟨B0 + 1, 1, none⟩ = some (.int .i64 h) ∧ W.cell? ⟨B0 + 1, 2, none⟩ = some (.int .i64 h) ∧ W.cell? ⟨B0 + 1, 3, none⟩ = some (.int .i64 h) ∧ W.cell? ⟨B0 + 1, 4, none⟩ = some (.int .i64 h) ∧ W.cell? ⟨B0 + 1, 5, none⟩ = some (.int .i64 0) ∧ W.cell? ⟨B0 + 1, 6, none⟩ = some (.int .i64 0) ∧ W.cell? ⟨B2, 0, none⟩ = some (.int .i64 0) ∧ W.cell? ⟨B2, 1, none⟩ = some (.int .i64 0) ∧ W.cell? ⟨B2, 2, none⟩ = some (.int .i64 0) ∧ W.cell? ⟨B2, 3, none⟩ = some (.int .i64 0) ∧ W.cell? ⟨B3, 2, none⟩ = some (.int .i64 sb) ∧ W.cell? ⟨B3, 3, none⟩ = some (.int .i64 sn) ∧ Below w.heap.size w W)
      (first
        | exact ⟨hc0, l0, l1, l2, l3, l4, l5, l6, s0, s1, s2, s3, x2, x3, below_drew1 HB5⟩
        | (go_split_ands
           (try dsimp only)
           repeat' apply And.intro
           all_goals first
             | exact (hb.cell (World.block_lt_of_cell? _ _ (by assumption))).trans (by assumption)
             | exact below_step (by assumption) hb
             | assumption)
        | go_keep)
      (first
        | (go_at_call 29; (with_reducible refine (N1.out _).mono ?_); rintro e w' ⟨rfl, hb⟩)
        | (go_at_call 29; (with_reducible refine (N2.out _).mono ?_); rintro e w' ⟨rfl, hb⟩)
        | (go_at_call 29; (with_reducible refine (N3.out _).mono ?_); rintro e w' ⟨rfl, hb⟩)
        | (go_at_call 29; (with_reducible refine (N4.out _).mono ?_); rintro e w' ⟨rfl, hb⟩)
        | (go_at_call 31; (with_reducible refine (AW.out _).mono ?_); rintro e w' ⟨rfl, hb⟩)
        | (go_at_call 32; (with_reducible refine (over_calls n h B0 _ ?_ sn (by have := HSN.out; omega)).mono ?_); (go_split_ands; assumption); rintro e w' ⟨rfl, rfl⟩)
        | (go_at_call 32; (with_reducible refine (over_calls b h B0 _ ?_ sb (by have := HSB.out; omega)).mono ?_); (go_split_ands; assumption); rintro e w' ⟨rfl, rfl⟩))
    go_wp2
    go_ret
    refine ⟨rfl, ?_⟩
    go_split_ands
    first | assumption | exact below_step (by assumption) hb
  · skip
    have N1 : Aside0 (∀ W, Calls Try.prog 29 #[.agg #[.int .i64 0, .int .i64 h, .int .i64 h, .int .i64 h, .int .i64 h, .int .i64 0, .int .i64 0], .agg #[.int .i64 0, .int .i64 0, .int .i64 0, .int .i64 0], .int .i64 5, .int .i64 b, .int .i64 n] W fun e w' => e = .returned (.bool true) ∧ Below W.heap.size W w') := ⟨fun W => may_c h 0 0 b n true W (by simp; omega)⟩
    have N2 : Aside0 (∀ W, Calls Try.prog 29 #[.agg #[.int .i64 0, .int .i64 h, .int .i64 h, .int .i64 h, .int .i64 h, .int .i64 0, .int .i64 0], .agg #[.int .i64 b, .int .i64 n, .int .i64 0, .int .i64 0], .int .i64 5, .int .i64 b, .int .i64 n] W fun e w' => e = .returned (.bool true) ∧ Below W.heap.size W w') := ⟨fun W => may_c h b n b n true W (by simp)⟩
    have N3 : Aside0 (∀ W, Calls Try.prog 29 #[.agg #[.int .i64 0, .int .i64 h, .int .i64 h, .int .i64 h, .int .i64 h, .int .i64 0, .int .i64 0], .agg #[.int .i64 (b + 1), .int .i64 n, .int .i64 0, .int .i64 0], .int .i64 5, .int .i64 b, .int .i64 n] W fun e w' => e = .returned (.bool true) ∧ Below W.heap.size W w') := ⟨fun W => may_c h (b + 1) n b n true W (by simp; omega)⟩
    have N4 : Aside0 (∀ W, Calls Try.prog 29 #[.agg #[.int .i64 0, .int .i64 h, .int .i64 h, .int .i64 h, .int .i64 h, .int .i64 0, .int .i64 0], .agg #[.int .i64 b, .int .i64 n, .int .i64 0, .int .i64 0], .int .i64 5, .int .i64 b, .int .i64 (n + 1)] W fun e w' => e = .returned (.bool false) ∧ Below W.heap.size W w') := ⟨fun W => may_c h b n b (n + 1) false W (by simp; omega)⟩
    have f1 : decide (b ≤ h) = true := decide_eq_true cb
    have f2 : decide (n ≤ h) = true := decide_eq_true (by omega)
    have f3 : decide (n + 1 ≤ h) = false := decide_eq_false (by omega)
    simp only [List.append_eq, List.cons_append, List.nil_append]
    go_region_held3 (fun W => W.cell? ⟨B0, 0, none⟩ = some (.int .i64 h) ∧ W.cell? ⟨B0 + 1, 0, none⟩ = some (.int .i64 0) ∧ W.cell? ⟨B0 + 1, 1, none⟩ = some (.int .i64 h) ∧ W.cell? ⟨B0 + 1, 2, none⟩ = some (.int .i64 h) ∧ W.cell? ⟨B0 + 1, 3, none⟩ = some (.int .i64 h) ∧ W.cell? ⟨B0 + 1, 4, none⟩ = some (.int .i64 h) ∧ W.cell? ⟨B0 + 1, 5, none⟩ = some (.int .i64 0) ∧ W.cell? ⟨B0 + 1, 6, none⟩ = some (.int .i64 0) ∧ W.cell? ⟨B2, 0, none⟩ = some (.int .i64 0) ∧ W.cell? ⟨B2, 1, none⟩ = some (.int .i64 0) ∧ W.cell? ⟨B2, 2, none⟩ = some (.int .i64 0) ∧ W.cell? ⟨B2, 3, none⟩ = some (.int .i64 0) ∧ W.cell? ⟨B3, 2, none⟩ = some (.int .i64 sb) ∧ W.cell? ⟨B3, 3, none⟩ = some (.int .i64 sn) ∧ Below w.heap.size w W)
      (first
        | exact ⟨hc0, l0, l1, l2, l3, l4, l5, l6, s0, s1, s2, s3, x2, x3, below_drew1 HB5⟩
        | (go_split_ands
           (try dsimp only)
           repeat' apply And.intro
           all_goals first
             | exact (hb.cell (World.block_lt_of_cell? _ _ (by assumption))).trans (by assumption)
             | exact below_step (by assumption) hb
             | assumption)
        | go_keep)
      (first
        | (go_at_call 29; (with_reducible refine (N1.out _).mono ?_); rintro e w' ⟨rfl, hb⟩)
        | (go_at_call 29; (with_reducible refine (N2.out _).mono ?_); rintro e w' ⟨rfl, hb⟩)
        | (go_at_call 29; (with_reducible refine (N3.out _).mono ?_); rintro e w' ⟨rfl, hb⟩)
        | (go_at_call 29; (with_reducible refine (N4.out _).mono ?_); rintro e w' ⟨rfl, hb⟩)
        | (go_at_call 31; (with_reducible refine (AW.out _).mono ?_); rintro e w' ⟨rfl, hb⟩)
        | (go_at_call 32; (with_reducible refine (over_calls n h B0 _ ?_ sn (by have := HSN.out; omega)).mono ?_); (go_split_ands; assumption); rintro e w' ⟨rfl, rfl⟩)
        | (go_at_call 32; (with_reducible refine (over_calls b h B0 _ ?_ sb (by have := HSB.out; omega)).mono ?_); (go_split_ands; assumption); rintro e w' ⟨rfl, rfl⟩))
    go_wp2
    go_ret
    refine ⟨rfl, ?_⟩
    go_split_ands
    first | assumption | exact below_step (by assumption) hb
  · skip
    have N1 : Aside0 (∀ W, Calls Try.prog 29 #[.agg #[.int .i64 0, .int .i64 h, .int .i64 h, .int .i64 h, .int .i64 h, .int .i64 0, .int .i64 0], .agg #[.int .i64 0, .int .i64 0, .int .i64 0, .int .i64 0], .int .i64 5, .int .i64 b, .int .i64 n] W fun e w' => e = .returned (.bool false) ∧ Below W.heap.size W w') := ⟨fun W => may_c h 0 0 b n false W (by simp; omega)⟩
    have N2 : Aside0 (∀ W, Calls Try.prog 29 #[.agg #[.int .i64 0, .int .i64 h, .int .i64 h, .int .i64 h, .int .i64 h, .int .i64 0, .int .i64 0], .agg #[.int .i64 b, .int .i64 n, .int .i64 0, .int .i64 0], .int .i64 5, .int .i64 b, .int .i64 n] W fun e w' => e = .returned (.bool true) ∧ Below W.heap.size W w') := ⟨fun W => may_c h b n b n true W (by simp)⟩
    have N3 : Aside0 (∀ W, Calls Try.prog 29 #[.agg #[.int .i64 0, .int .i64 h, .int .i64 h, .int .i64 h, .int .i64 h, .int .i64 0, .int .i64 0], .agg #[.int .i64 (b + 1), .int .i64 n, .int .i64 0, .int .i64 0], .int .i64 5, .int .i64 b, .int .i64 n] W fun e w' => e = .returned (.bool true) ∧ Below W.heap.size W w') := ⟨fun W => may_c h (b + 1) n b n true W (by simp; omega)⟩
    have N4 : Aside0 (∀ W, Calls Try.prog 29 #[.agg #[.int .i64 0, .int .i64 h, .int .i64 h, .int .i64 h, .int .i64 h, .int .i64 0, .int .i64 0], .agg #[.int .i64 b, .int .i64 n, .int .i64 0, .int .i64 0], .int .i64 5, .int .i64 b, .int .i64 (n + 1)] W fun e w' => e = .returned (.bool false) ∧ Below W.heap.size W w') := ⟨fun W => may_c h b n b (n + 1) false W (by simp; omega)⟩
    have f1 : decide (b ≤ h) = true := decide_eq_true cb
    have f2 : decide (n ≤ h) = false := decide_eq_false (by omega)
    have f3 : decide (n + 1 ≤ h) = false := decide_eq_false (by omega)
    simp only [List.append_eq, List.cons_append, List.nil_append]
    go_region_held3 (fun W => W.cell? ⟨B0, 0, none⟩ = some (.int .i64 h) ∧ W.cell? ⟨B0 + 1, 0, none⟩ = some (.int .i64 0) ∧ W.cell? ⟨B0 + 1, 1, none⟩ = some (.int .i64 h) ∧ W.cell? ⟨B0 + 1, 2, none⟩ = some (.int .i64 h) ∧ W.cell? ⟨B0 + 1, 3, none⟩ = some (.int .i64 h) ∧ W.cell? ⟨B0 + 1, 4, none⟩ = some (.int .i64 h) ∧ W.cell? ⟨B0 + 1, 5, none⟩ = some (.int .i64 0) ∧ W.cell? ⟨B0 + 1, 6, none⟩ = some (.int .i64 0) ∧ W.cell? ⟨B2, 0, none⟩ = some (.int .i64 0) ∧ W.cell? ⟨B2, 1, none⟩ = some (.int .i64 0) ∧ W.cell? ⟨B2, 2, none⟩ = some (.int .i64 0) ∧ W.cell? ⟨B2, 3, none⟩ = some (.int .i64 0) ∧ W.cell? ⟨B3, 2, none⟩ = some (.int .i64 sb) ∧ W.cell? ⟨B3, 3, none⟩ = some (.int .i64 sn) ∧ Below w.heap.size w W)
      (first
        | exact ⟨hc0, l0, l1, l2, l3, l4, l5, l6, s0, s1, s2, s3, x2, x3, below_drew1 HB5⟩
        | (go_split_ands
           (try dsimp only)
           repeat' apply And.intro
           all_goals first
             | exact (hb.cell (World.block_lt_of_cell? _ _ (by assumption))).trans (by assumption)
             | exact below_step (by assumption) hb
             | assumption)
        | go_keep)
      (first
        | (go_at_call 29; (with_reducible refine (N1.out _).mono ?_); rintro e w' ⟨rfl, hb⟩)
        | (go_at_call 29; (with_reducible refine (N2.out _).mono ?_); rintro e w' ⟨rfl, hb⟩)
        | (go_at_call 29; (with_reducible refine (N3.out _).mono ?_); rintro e w' ⟨rfl, hb⟩)
        | (go_at_call 29; (with_reducible refine (N4.out _).mono ?_); rintro e w' ⟨rfl, hb⟩)
        | (go_at_call 31; (with_reducible refine (AW.out _).mono ?_); rintro e w' ⟨rfl, hb⟩)
        | (go_at_call 32; (with_reducible refine (over_calls n h B0 _ ?_ sn (by have := HSN.out; omega)).mono ?_); (go_split_ands; assumption); rintro e w' ⟨rfl, rfl⟩)
        | (go_at_call 32; (with_reducible refine (over_calls b h B0 _ ?_ sb (by have := HSB.out; omega)).mono ?_); (go_split_ands; assumption); rintro e w' ⟨rfl, rfl⟩))
    go_wp2
    go_ret
    refine ⟨rfl, ?_⟩
    go_split_ands
    first | assumption | exact below_step (by assumption) hb
end Go.Proofs.Ytmjkkkllmpagpaa.Pure
