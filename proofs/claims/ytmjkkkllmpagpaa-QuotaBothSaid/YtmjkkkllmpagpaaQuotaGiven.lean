/- The contracts of quota.May and quota.Next: called with any bounds, state, clock and numbers they answer what quota_May.f and quota_Next.f say, and what lay in memory before stays as it was. Conditions: none. -/
import Derived.Test.YtmjkkkllmpagpaaQuotaSide
namespace Go.Proofs.Ytmjkkkllmpagpaa.PQuota
open Go.RowKit Go.Proofs.YtmjkkkllmpagpaaW.PrintWords Go.Proofs.YtmjkkkllmpagpaaW.PrintLast Go.Proofs.YtmjkkkllmpagpaaW.PrintMore
set_option linter.unusedVariables false
set_option linter.unusedSimpArgs false

def quota_May.f (a0_0 : Int) (a0_1 : Int) (a0_2 : Int) (a0_3 : Int) (a0_4 : Int) (a0_5 : Int) (a0_6 : Int) (a1_0 : Int) (a1_1 : Int) (a1_2 : Int) (a1_3 : Int) (a2 : Int) (a3 : Int) (a4 : Int) : Option (Bool) :=
  some (sideMay a0_5 (cutF a2 1099511627777) a0_1 a0_2 a1_0 (cutF a1_2 1099511627777) a3 && sideMay a0_5 (cutF a2 1099511627777) a0_3 a0_4 a1_1 (cutF a1_3 1099511627777) a4)
def quota_Next.f (a0_0 : Int) (a0_1 : Int) (a0_2 : Int) (a0_3 : Int) (a0_4 : Int) (a0_5 : Int) (a0_6 : Int) (a1_0 : Int) (a1_1 : Int) (a1_2 : Int) (a1_3 : Int) (a2 : Int) (a3 : Int) (a4 : Int) : Option (Int × Int × Int × Int) :=
  some (a3, a4, sideSince (cutF a2 1099511627777) a0_2 (cutF a1_2 1099511627777) a3, sideSince (cutF a2 1099511627777) a0_4 (cutF a1_3 1099511627777) a4)

set_option maxHeartbeats 4000000 in
set_option maxRecDepth 100000 in
theorem may_any (a0_0 : Int) (a0_1 : Int) (a0_2 : Int) (a0_3 : Int) (a0_4 : Int) (a0_5 : Int) (a0_6 : Int) (a1_0 : Int) (a1_1 : Int) (a1_2 : Int) (a1_3 : Int) (a2 : Int) (a3 : Int) (a4 : Int) (c s1 s2 : Int) (m1 m2 : Bool) (n1 n2 : Int) (w : World)
    (hc : Aside0 (cutF a2 1099511627777 = c)) (hs1 : Aside0 (cutF a1_2 1099511627777 = s1)) (hs2 : Aside0 (cutF a1_3 1099511627777 = s2)) (hcb : 0 ≤ c ∧ c ≤ 1099511627777) (hb1 : 0 ≤ s1 ∧ s1 ≤ 1099511627777) (hb2 : 0 ≤ s2 ∧ s2 ≤ 1099511627777)
    (hm1 : Aside0 (sideMay a0_5 c a0_1 a0_2 a1_0 s1 a3 = m1)) (hm2 : Aside0 (sideMay a0_5 c a0_3 a0_4 a1_1 s2 a4 = m2)) (hn1 : Aside0 (sideSince c a0_2 s1 a3 = n1)) (hn2 : Aside0 (sideSince c a0_4 s2 a4 = n2)) :
    Calls Try.prog 29 #[.agg #[.int .i64 a0_0, .int .i64 a0_1, .int .i64 a0_2, .int .i64 a0_3, .int .i64 a0_4, .int .i64 a0_5, .int .i64 a0_6], .agg #[.int .i64 a1_0, .int .i64 a1_1, .int .i64 a1_2, .int .i64 a1_3], .int .i64 a2, .int .i64 a3, .int .i64 a4] w fun e w' => e = .returned (.bool (m1 && m2)) ∧ Below w.heap.size w w' := by
  have hu29 := Try.underlying29
  have hu53 := Try.underlying53
  obtain ⟨hc0, hc1⟩ := hcb
  cases m1 <;> (
  go_enter Try.func29, Try.ntmps29
  go_wp2_with (first
    | (go_at_call 40; (with_reducible refine (cut_same _ _ _).mono ?_); rintro e w' ⟨rfl, rfl⟩; rw [hc.out])
    | (go_at_call 41; (with_reducible refine (side_calls a0_5 c a0_1 a0_2 a1_0 a1_2 a3 s1 _ _ _ hs1 hb1.1 hb1.2 hc0 hc1 ?_ ?_).mono ?_); (· go_simp); (· go_simp); rintro e w' ⟨rfl, nd, rfl⟩; rw [hm1.out, hn1.out])
    | (go_at_call 41; (with_reducible refine (side_calls a0_5 c a0_3 a0_4 a1_1 a1_3 a4 s2 _ _ _ hs2 hb2.1 hb2.2 hc0 hc1 ?_ ?_).mono ?_); (· go_simp); (· go_simp); rintro e w' ⟨rfl, nd, rfl⟩; rw [hm2.out, hn2.out])
    | go_in)
  go_ret
  exact ⟨rfl, by repeat (first | (with_reducible exact Below.refl _ _) | apply below_alloc | apply pw_below_drewN)⟩)

set_option maxHeartbeats 4000000 in
set_option maxRecDepth 100000 in
theorem next_any (a0_0 : Int) (a0_1 : Int) (a0_2 : Int) (a0_3 : Int) (a0_4 : Int) (a0_5 : Int) (a0_6 : Int) (a1_0 : Int) (a1_1 : Int) (a1_2 : Int) (a1_3 : Int) (a2 : Int) (a3 : Int) (a4 : Int) (c s1 s2 : Int) (m1 m2 : Bool) (n1 n2 : Int) (w : World)
    (hc : Aside0 (cutF a2 1099511627777 = c)) (hs1 : Aside0 (cutF a1_2 1099511627777 = s1)) (hs2 : Aside0 (cutF a1_3 1099511627777 = s2)) (hcb : 0 ≤ c ∧ c ≤ 1099511627777) (hb1 : 0 ≤ s1 ∧ s1 ≤ 1099511627777) (hb2 : 0 ≤ s2 ∧ s2 ≤ 1099511627777)
    (hm1 : Aside0 (sideMay a0_5 c a0_1 a0_2 a1_0 s1 a3 = m1)) (hm2 : Aside0 (sideMay a0_5 c a0_3 a0_4 a1_1 s2 a4 = m2)) (hn1 : Aside0 (sideSince c a0_2 s1 a3 = n1)) (hn2 : Aside0 (sideSince c a0_4 s2 a4 = n2)) :
    Calls Try.prog 27 #[.agg #[.int .i64 a0_0, .int .i64 a0_1, .int .i64 a0_2, .int .i64 a0_3, .int .i64 a0_4, .int .i64 a0_5, .int .i64 a0_6], .agg #[.int .i64 a1_0, .int .i64 a1_1, .int .i64 a1_2, .int .i64 a1_3], .int .i64 a2, .int .i64 a3, .int .i64 a4] w fun e w' => e = .returned (.agg #[.int .i64 a3, .int .i64 a4, .int .i64 n1, .int .i64 n2]) ∧ Below w.heap.size w w' := by
  have hu29 := Try.underlying29
  have hu53 := Try.underlying53
  obtain ⟨hc0, hc1⟩ := hcb
  go_enter Try.func27, Try.ntmps27
  go_wp2_with (first
    | (go_at_call 40; (with_reducible refine (cut_same _ _ _).mono ?_); rintro e w' ⟨rfl, rfl⟩; rw [hc.out])
    | (go_at_call 41; (with_reducible refine (side_calls a0_5 c a0_1 a0_2 a1_0 a1_2 a3 s1 _ _ _ hs1 hb1.1 hb1.2 hc0 hc1 ?_ ?_).mono ?_); (· go_simp); (· go_simp); rintro e w' ⟨rfl, nd, rfl⟩; rw [hm1.out, hn1.out])
    | (go_at_call 41; (with_reducible refine (side_calls a0_5 c a0_3 a0_4 a1_1 a1_3 a4 s2 _ _ _ hs2 hb2.1 hb2.2 hc0 hc1 ?_ ?_).mono ?_); (· go_simp); (· go_simp); rintro e w' ⟨rfl, nd, rfl⟩; rw [hm2.out, hn2.out])
    | go_in)
  refine bodyPost_ret (v := .agg #[.int .i64 a3, .int .i64 a4, .int .i64 n1, .int .i64 n2]) (by simp [results, Try.results27, go_sem]) rfl ⟨rfl, ?_⟩
  repeat (first | (with_reducible exact Below.refl _ _) | apply below_alloc | apply pw_below_drewN | refine below_set ?_ (by omega))

theorem quota_May.calls (a0_0 : Int) (a0_1 : Int) (a0_2 : Int) (a0_3 : Int) (a0_4 : Int) (a0_5 : Int) (a0_6 : Int) (a1_0 : Int) (a1_1 : Int) (a1_2 : Int) (a1_3 : Int) (a2 : Int) (a3 : Int) (a4 : Int) (r : Bool) (w : World) (h : quota_May.f a0_0 a0_1 a0_2 a0_3 a0_4 a0_5 a0_6 a1_0 a1_1 a1_2 a1_3 a2 a3 a4 = some r) :
    Calls Try.prog 29 #[.agg #[.int .i64 a0_0, .int .i64 a0_1, .int .i64 a0_2, .int .i64 a0_3, .int .i64 a0_4, .int .i64 a0_5, .int .i64 a0_6], .agg #[.int .i64 a1_0, .int .i64 a1_1, .int .i64 a1_2, .int .i64 a1_3], .int .i64 a2, .int .i64 a3, .int .i64 a4] w fun e w' => e = .returned (.bool r) ∧ Below w.heap.size w w' := by
  obtain rfl := Option.some.inj h
  exact may_any a0_0 a0_1 a0_2 a0_3 a0_4 a0_5 a0_6 a1_0 a1_1 a1_2 a1_3 a2 a3 a4 _ _ _ _ _ _ _ w ⟨rfl⟩ ⟨rfl⟩ ⟨rfl⟩ (cutF_bd _) (cutF_bd _) (cutF_bd _) ⟨rfl⟩ ⟨rfl⟩ ⟨rfl⟩ ⟨rfl⟩
theorem quota_Next.calls (a0_0 : Int) (a0_1 : Int) (a0_2 : Int) (a0_3 : Int) (a0_4 : Int) (a0_5 : Int) (a0_6 : Int) (a1_0 : Int) (a1_1 : Int) (a1_2 : Int) (a1_3 : Int) (a2 : Int) (a3 : Int) (a4 : Int) (r1 : Int) (r2 : Int) (r3 : Int) (r4 : Int) (w : World) (h : quota_Next.f a0_0 a0_1 a0_2 a0_3 a0_4 a0_5 a0_6 a1_0 a1_1 a1_2 a1_3 a2 a3 a4 = some (r1, r2, r3, r4)) :
    Calls Try.prog 27 #[.agg #[.int .i64 a0_0, .int .i64 a0_1, .int .i64 a0_2, .int .i64 a0_3, .int .i64 a0_4, .int .i64 a0_5, .int .i64 a0_6], .agg #[.int .i64 a1_0, .int .i64 a1_1, .int .i64 a1_2, .int .i64 a1_3], .int .i64 a2, .int .i64 a3, .int .i64 a4] w fun e w' => e = .returned (.agg #[.int .i64 r1, .int .i64 r2, .int .i64 r3, .int .i64 r4]) ∧ Below w.heap.size w w' := by
  simp only [quota_Next.f, Option.some.injEq, Prod.mk.injEq] at h
  obtain ⟨rfl, rfl, rfl, rfl⟩ := h
  exact next_any a0_0 a0_1 a0_2 a0_3 a0_4 a0_5 a0_6 a1_0 a1_1 a1_2 a1_3 a2 a3 a4 _ _ _ _ _ _ _ w ⟨rfl⟩ ⟨rfl⟩ ⟨rfl⟩ (cutF_bd _) (cutF_bd _) (cutF_bd _) ⟨rfl⟩ ⟨rfl⟩ ⟨rfl⟩ ⟨rfl⟩
end Go.Proofs.Ytmjkkkllmpagpaa.PQuota
