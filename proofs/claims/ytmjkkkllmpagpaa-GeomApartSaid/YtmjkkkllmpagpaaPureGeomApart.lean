/- GeomApart answers true for all numbers: a disk's places are apart. Conditions: none. -/
import Derived.Test.YtmjkkkllmpagpaaGeomPlain
namespace Go.Proofs.Ytmjkkkllmpagpaa.Pure
open Go.RowKit Go.Proofs.YtmjkkkllmpagpaaW.PrintWords Go.Proofs.YtmjkkkllmpagpaaW.PrintLast Go.Proofs.YtmjkkkllmpagpaaW.PrintMore
open Go.Proofs.Ytmjkkkllmpagpaa.Aid Go.Proofs.Ytmjkkkllmpagpaa.PGeom
set_option linter.unusedVariables false
set_option linter.unusedSimpArgs false

theorem g_place (a n : Int) (w : World) (h0 : 0 < n) (h1 : n ≤ 9223372036854775807) :
    Calls Try.prog 14 #[.int .i64 a, .int .i64 n] w fun e w' => e = .returned (.int .i64 (a % n)) ∧ Below w.heap.size w w' :=
  (beguinagelaw00_Place.calls a n (a % n) w (by unfold beguinagelaw00_Place.f; exact place a h0 h1)).mono fun e w' ⟨he, hd⟩ => ⟨he, by first | exact hd | (obtain ⟨nd, hd⟩ := hd; first | (rw [hd]; exact pw_below_drewN (Below.refl _ _) nd) | (rw [← hd]; exact pw_below_drewN (Below.refl _ _) nd))⟩
theorem g_slot (h c r : Int) (w : World) (hf : geom_SlotAt.f h c = some r) :
    Calls Try.prog 18 #[.int .i64 h, .int .i64 c] w fun e w' => e = .returned (.int .i64 r) ∧ Below w.heap.size w w' :=
  (geom_SlotAt.calls h c r w hf).mono fun e w' ⟨he, hd⟩ => ⟨he, by first | exact hd | (obtain ⟨nd, hd⟩ := hd; first | (rw [hd]; exact pw_below_drewN (Below.refl _ _) nd) | (rw [← hd]; exact pw_below_drewN (Below.refl _ _) nd))⟩
theorem g_awake : beguinagelaw05_awake.f = some true := by decide +kernel
set_option maxHeartbeats 8000000 in
set_option maxRecDepth 100000 in
theorem GeomApart_walk (a0 a1 a2 a3 : Int) (w : World) (w0 : (Lit.int .i64 a0).wf = true) (w1 : (Lit.int .i64 a1).wf = true) (w2 : (Lit.int .i64 a2).wf = true) (w3 : (Lit.int .i64 a3).wf = true) :
    Calls Try.prog 9 #[.int .i64 a0, .int .i64 a1, .int .i64 a2, .int .i64 a3] w fun e w' => e = .returned (.bool true) ∧ Below w.heap.size w w' := by
  clear w0 w1 w2 w3
  go_enter Try.func9, Try.ntmps9
  go_wp2_with fail
  refine (g_place _ _ _ (by omega) (by omega)).mono ?_
  rintro e w1 ⟨rfl, hb1⟩
  have x0 := Int.emod_nonneg a0 (show (30 : Int) ≠ 0 by omega)
  have x1 := Int.emod_lt_of_pos a0 (show (0 : Int) < 30 by omega)
  generalize a0 % 30 = x at *
  obtain ⟨n, hn⟩ : ∃ n, 8 + x = n := ⟨_, rfl⟩
  have n0 : 8 ≤ n := by omega
  have n1 : n ≤ 37 := by omega
  have HN := Aside0.mk hn
  clear hn
  go_wp2_with fail
  try rw [HN.out]
  refine (g_place _ _ _ (by omega) (by omega)).mono ?_
  rintro e w2 ⟨rfl, hb2⟩
  have y0 := Int.emod_nonneg a1 (show (33 : Int) ≠ 0 by omega)
  have y1 := Int.emod_lt_of_pos a1 (show (0 : Int) < 33 by omega)
  generalize a1 % 33 = y at *
  obtain ⟨L, hl⟩ : ∃ L, 32 + y = L := ⟨_, rfl⟩
  have l0 : 32 ≤ L := by omega
  have l1 : L ≤ 64 := by omega
  have HL := Aside0.mk hl
  clear hl
  have HB2 := below_step hb1 hb2
  clear hb1 hb2
  obtain ⟨m, hm⟩ : ∃ m, m = n * L := ⟨_, rfl⟩
  have hwm : wrap64 (n * L) = m := by
    have h1 : n * L ≤ 37 * L := Int.mul_le_mul_of_nonneg_right n1 (by omega)
    have h2 : 8 * L ≤ n * L := Int.mul_le_mul_of_nonneg_right n0 (by omega)
    rw [hm, w64 (by omega) (by omega)]
  have HD : Aside0 (∀ r : Int, 0 ≤ r → r < L → Disk n L m r) := ⟨fun r h0 h1 => by rw [hm]; exact Disk.mk' n0 n1 l0 l1 h0 h1⟩
  have m0 : 8 * L ≤ m := by rw [hm]; exact Int.mul_le_mul_of_nonneg_right n0 (by omega)
  have m1 : m ≤ 2368 := by
    have h1 : n * L ≤ 37 * L := Int.mul_le_mul_of_nonneg_right n1 (by omega)
    omega
  clear hm
  go_wp2_with fail
  try rw [HL.out]
  refine (g_place _ _ _ (by omega) (by omega)).mono ?_
  rintro e w3 ⟨rfl, hb3⟩
  have HB3 := below_step HB2 hb3
  clear HB2 hb3
  obtain ⟨r, hr⟩ : ∃ r, a3 % L = r := ⟨_, rfl⟩
  have r0 : 0 ≤ r := by rw [← hr]; exact Int.emod_nonneg a3 (by omega)
  have r1 : r < L := by rw [← hr]; exact Int.emod_lt_of_pos a3 (by omega)
  have HR := Aside0.mk hr
  rw [hr]
  clear hr
  have D := HD.out r r0 r1
  have HWT : Aside0 (wrap64 (wrap64 (48 + wrap64 (n * L)) + r) = 48 + m + r) := ⟨by rw [hwm, w64 (x := 48 + m) (by omega) (by omega), w64 (by omega) (by omega)]⟩
  have HWM := Aside0.mk hwm
  clear hwm HD
  have DD := Aside0.mk D
  clear D
  go_wp2_with fail
  rw [HWT.out]
  refine (g_place _ _ _ (by omega) (by omega)).mono ?_
  rintro e w4 ⟨rfl, hb4⟩
  obtain ⟨s, hs⟩ : ∃ s, a2 % n = s := ⟨_, rfl⟩
  have s0 : 0 ≤ s := by rw [← hs]; exact Int.emod_nonneg a2 (by omega)
  have s1 : s < n := by rw [← hs]; exact Int.emod_lt_of_pos a2 (by omega)
  rw [hs]
  clear hs
  obtain ⟨T, hT⟩ : ∃ T, 48 + m + r = T := ⟨_, rfl⟩
  have HT := Aside0.mk hT
  have T0 : 0 ≤ T := by omega
  have T1 : T ≤ 4000 := by omega
  obtain ⟨q, hq⟩ : ∃ q, s * L = q := ⟨_, rfl⟩
  have hq0 := DD.out.seg_le s0 s1
  have F1 : Aside0 (geom_Start.f T L s = some (48 + q)) := ⟨by rw [← hT, ← hq]; exact DD.out.start s0 s1⟩
  have F2 : Aside0 (geom_At.f T L (48 + q + r) = some (s, r, true)) := ⟨by rw [← hT, ← hq]; exact DD.out.at_in s0 s1 r0 r1⟩
  have F3 : Aside0 (geom_At.f T L (47 - r) = some (0, 0, false)) := ⟨by rw [← hT]; exact DD.out.at_low r0⟩
  have F4 : Aside0 (geom_At.f T L T = some (0, 0, false)) := ⟨by have := DD.out.at_high r0; rwa [hT] at this⟩
  have F5 : Aside0 (geom_Check.f T L = some true) := ⟨by rw [← hT]; exact DD.out.check⟩
  have F6 : Aside0 (geom_Segs.f T L = some n) := ⟨by rw [← hT]; exact DD.out.segs⟩
  have F7 : Aside0 (geom_Start.f T L n = some 0) := ⟨by rw [← hT]; exact DD.out.start_out.1⟩
  have F8 : Aside0 (geom_Start.f T L (-1) = some 0) := ⟨by rw [← hT]; exact DD.out.start_out.2⟩
  rw [hq] at hq0
  rw [hT] at hb4 ⊢
  rw [hT] at HWT
  clear hT hq DD
  have g0 : w4.cell? ⟨w3.heap.size, 0, none⟩ = some (.int .i64 T) := by rw [hb4.cell (by simp)]; go_simp
  have g1 : w4.cell? ⟨w3.heap.size, 1, none⟩ = some (.int .i64 L) := by rw [hb4.cell (by simp)]; go_simp
  have hw3 : w.heap.size ≤ w3.heap.size := HB3.size
  have HB4 : Below w.heap.size w w4 := (HB3.alloc HB3.size _).trans (hb4.mono (by simp; omega))
  have hs4 : w3.heap.size < w4.heap.size := by have := hb4.size; simp at this; omega
  clear hb4 HB3
  obtain ⟨g, hg⟩ : ∃ g, w3.heap.size = g := ⟨_, rfl⟩
  rw [hg] at g0 g1 hw3 hs4 ⊢
  clear hg
  have hu24 := Try.underlying24
  go_wp2_with fail
  refine (g_place _ _ _ (by omega) (by omega)).mono ?_
  rintro e w5 ⟨rfl, hb5⟩
  rw [HR.out]
  replace g0 := (hb5.cell (World.block_lt_of_cell? _ _ g0)).trans g0
  replace g1 := (hb5.cell (World.block_lt_of_cell? _ _ g1)).trans g1
  replace HB4 := below_step HB4 hb5
  replace hs4 : g < w5.heap.size := by have := hb5.size; omega
  clear hb5
  go_wp2_with fail
  have hw9 : IntKind.i64.wrap (48 + q + r) = 48 + q + r := by rw [IntKind.wrap_i64]; omega
  go_region_held3 (fun W => W.cell? ⟨g, 0, none⟩ = some (.int .i64 T) ∧ W.cell? ⟨g, 1, none⟩ = some (.int .i64 L) ∧ g < W.heap.size ∧ Below w.heap.size w W)
    (first
      | exact ⟨g0, g1, hs4, below_drew1 HB4⟩
      | (go_split_ands
         (try dsimp only)
         repeat' apply And.intro
         all_goals first
           | exact (hb.cell (World.block_lt_of_cell? _ _ (by assumption))).trans (by assumption)
           | exact below_step (by assumption) hb
           | assumption
           | (have := hb.size; omega))
      | go_keep)
    (first
      | (go_at_call 26; (with_reducible refine (geom_Start.calls _ _ _ _ _ F1.out).mono ?_); rintro e w' ⟨rfl, hb⟩)
      | (go_at_call 25; (with_reducible refine (geom_At.calls _ _ _ _ _ _ _ F2.out).mono ?_); rintro e w' ⟨rfl, hb⟩))
  clear g0 g1 hs4 HB4 hw9
  rename_i hH
  obtain ⟨g0, g1, hs4, HB4⟩ := hH
  try clear hb
  go_wp2_with fail
  refine (geom_At.calls _ _ _ _ _ _ _ F3.out).mono ?_
  rintro e w6 ⟨rfl, hb5⟩
  replace g0 := (hb5.cell (World.block_lt_of_cell? _ _ g0)).trans g0
  replace g1 := (hb5.cell (World.block_lt_of_cell? _ _ g1)).trans g1
  replace HB4 := below_step HB4 hb5
  replace hs4 := Nat.lt_of_lt_of_le hs4 hb5.size
  clear hb5
  go_wp2_with fail
  rw [HWT.out]
  refine (geom_At.calls _ _ _ _ _ _ _ F4.out).mono ?_
  rintro e w7 ⟨rfl, hb5⟩
  replace g0 := (hb5.cell (World.block_lt_of_cell? _ _ g0)).trans g0
  replace g1 := (hb5.cell (World.block_lt_of_cell? _ _ g1)).trans g1
  replace HB4 := below_step HB4 hb5
  replace hs4 := Nat.lt_of_lt_of_le hs4 hb5.size
  clear hb5
  go_wp2_with fail
  refine (geom_Check.calls _ _ _ _ F5.out).mono ?_
  rintro e w8 ⟨rfl, hb5⟩
  replace g0 := (hb5.cell (World.block_lt_of_cell? _ _ g0)).trans g0
  replace g1 := (hb5.cell (World.block_lt_of_cell? _ _ g1)).trans g1
  replace HB4 := below_step HB4 hb5
  replace hs4 := Nat.lt_of_lt_of_le hs4 hb5.size
  clear hb5
  go_wp2_with fail
  refine (geom_Segs.calls _ _ _ _ F6.out).mono ?_
  rintro e w9 ⟨rfl, hb5⟩
  replace g0 := (hb5.cell (World.block_lt_of_cell? _ _ g0)).trans g0
  replace g1 := (hb5.cell (World.block_lt_of_cell? _ _ g1)).trans g1
  replace HB4 := below_step HB4 hb5
  replace hs4 := Nat.lt_of_lt_of_le hs4 hb5.size
  clear hb5
  have hz := (zero_of_info info51).1
  have HM0 : Aside0 (Mk (w9.alloc (.cells (bvals (marks 16)) 51)) w9.heap.size 16) := ⟨heap_alloc_last _ _⟩
  generalize bvals (marks 16) = V at *
  obtain ⟨G, hG⟩ : ∃ G, w9.heap.size = G := ⟨_, rfl⟩
  have hwG : w.heap.size ≤ G := by rw [← hG]; exact HB4.size
  have HB5 : Below w.heap.size w (w9.alloc (.cells V 51)) := HB4.alloc HB4.size _
  replace g0 := (World.cell?_alloc_lt w9 (.cells V 51) _ (World.block_lt_of_cell? _ _ g0)).trans g0
  replace g1 := (World.cell?_alloc_lt w9 (.cells V 51) _ (World.block_lt_of_cell? _ _ g1)).trans g1
  have GG0 := Aside0.mk g0
  have GG1 := Aside0.mk g1
  have hgG : g < G := by omega
  clear g0 g1 HB4 hs4
  go_wp2_with fail
  rw [hG] at HM0
  try rw [hG]
  generalize w9.alloc (.cells V 51) = W at *
  clear hG
  go_loopw [8, 24] (fun rv i wr => ∃ h : Nat, rv = .bool false ∧ 1 ≤ h ∧ h ≤ 17 ∧ i = .int .i64 h ∧ Aside0 (Mk wr G (14 + 2 * h)) ∧ Aside0 (wr.cell? ⟨g, 0, none⟩ = some (.int .i64 T)) ∧ Aside0 (wr.cell? ⟨g, 1, none⟩ = some (.int .i64 L)) ∧ Below w.heap.size w wr)
    (fun _ i _ => 17 - (intOf i).toNat)
  case atStart => exact ⟨1, rfl, by omega, by omega, rfl, HM0, GG0, GG1, HB5⟩
  case round =>
    clear HM0 GG0 GG1 HB5 hz
    obtain ⟨h, rfl, h0, h1, rfl, HM, GG0, GG1, HB⟩ := hrel
    by_cases hlt : h ≤ 16
    · go_wp2_with fail
      rw [show decide ((h : Int) ≤ 16) = true from decide_eq_true (by omega)]
      go_loopw [8, 25] (fun rv i wr => ∃ c : Nat, rv = .bool false ∧ c ≤ 2 ∧ i = .int .i64 c ∧ Aside0 (Mk wr G (14 + 2 * h + c)) ∧ Aside0 (wr.cell? ⟨g, 0, none⟩ = some (.int .i64 T)) ∧ Aside0 (wr.cell? ⟨g, 1, none⟩ = some (.int .i64 L)) ∧ Below w.heap.size w wr)
        (fun _ i _ => 2 - (intOf i).toNat)
      case atStart => exact ⟨0, rfl, by omega, rfl, HM, GG0, GG1, HB⟩
      case round =>
        clear HM GG0 GG1 HB
        obtain ⟨c, rfl, c0, rfl, HM, GG0, GG1, HB⟩ := hrel
        by_cases hc2 : c < 2
        · have FS : Aside0 (geom_SlotAt.f (h : Int) (c : Int) = some ((14 + 2 * h + c : Nat) : Int)) := ⟨slot_at h c h0 hlt hc2⟩
          obtain ⟨p, hp⟩ : ∃ p, 14 + 2 * h + c = p := ⟨_, rfl⟩
          have p0 : 16 ≤ p := by omega
          have p1 : p < 48 := by omega
          rw [hp] at FS HM
          go_wp2_with fail
          refine (g_slot _ _ _ _ FS.out).mono ?_
          rintro e w1 ⟨rfl, hb⟩
          have HM1 := HM.out.below hb
          replace GG0 := Aside0.mk ((hb.cell (World.block_lt_of_cell? _ _ GG0.out)).trans GG0.out)
          replace GG1 := Aside0.mk ((hb.cell (World.block_lt_of_cell? _ _ GG1.out)).trans GG1.out)
          have HB1 := below_step HB hb
          clear hb HB HM FS
          have hc := HM1.unset (by omega)
          have hf := HM1.frozen p
          have HM2 := Aside0.mk (HM1.set p0 (by omega))
          have hGl := HM1.lt
          have GG2 : Aside0 ((w1.setCell ⟨G, p, none⟩ (.bool true)).cell? ⟨g, 0, none⟩ = some (.int .i64 T)) := ⟨(World.cell?_setCell_far _ _ _ _ (by show G ≠ g; omega)).trans GG0.out⟩
          have GG3 : Aside0 ((w1.setCell ⟨G, p, none⟩ (.bool true)).cell? ⟨g, 1, none⟩ = some (.int .i64 L)) := ⟨(World.cell?_setCell_far _ _ _ _ (by show G ≠ g; omega)).trans GG1.out⟩
          have HB2 : Below w.heap.size w (w1.setCell ⟨G, p, none⟩ (.bool true)) := below_set HB1 hwG
          clear HM1 GG0 GG1 HB1
          go_wp2_with fail
          go_roundw
          case rel =>
            exact ⟨c + 1, rfl, by omega, by go_num, by rw [show 14 + 2 * h + (c + 1) = p + 1 by omega]; exact HM2, GG2, GG3, HB2⟩
          case measure => simp only [intOf]; (try rw [w64 (by omega) (by omega)]); omega
        · obtain rfl : c = 2 := by omega
          rw [show ((2 : Nat) : Int) = 2 from rfl]
          go_wp2_with fail
          go_roundw
          case rel => exact ⟨h + 1, rfl, by omega, by omega, by go_num, HM, GG0, GG1, HB⟩
          case measure => simp only [intOf]; (try rw [w64 (by omega) (by omega)]); omega
    · obtain rfl : h = 17 := by omega
      rw [show ((17 : Nat) : Int) = 17 from rfl]
      have g0 := GG0.out
      have g1 := GG1.out
      clear GG0 GG1 HM
      go_wp2_with fail
      refine (geom_Start.calls _ _ _ _ _ F7.out).mono ?_
      rintro e w10 ⟨rfl, hb5⟩
      replace g0 := (hb5.cell (World.block_lt_of_cell? _ _ g0)).trans g0
      replace g1 := (hb5.cell (World.block_lt_of_cell? _ _ g1)).trans g1
      replace HB := below_step HB hb5
      clear hb5
      go_wp2_with fail
      refine (geom_Start.calls _ _ _ _ _ F8.out).mono ?_
      rintro e w11 ⟨rfl, hb5⟩
      replace HB := below_step HB hb5
      clear hb5 g0 g1
      go_wp2_with fail
      refine (beguinagelaw05_awake.calls true _ g_awake).mono ?_
      rintro e w12 ⟨rfl, hb5⟩
      replace HB := below_step HB hb5
      clear hb5
      go_wp2_with fail
      go_ret
      exact ⟨rfl, HB⟩
end Go.Proofs.Ytmjkkkllmpagpaa.Pure
