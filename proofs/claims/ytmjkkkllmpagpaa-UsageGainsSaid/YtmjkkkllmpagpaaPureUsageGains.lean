/- UsageGains, the plain law: at every n, live, age and more the printed function of the statement answers true. Conditions: none beyond that the four numbers are int's. -/
import Derived.Test.YtmjkkkllmpagpaaPUsageGainsx2
import Derived.Test.YtmjkkkllmpagpaaAid
namespace Go.Proofs.Ytmjkkkllmpagpaa.Pure
open Go.RowKit Go.Proofs.Ytmjkkkllmpagpaa.PUsageGains Go.Proofs.YtmjkkkllmpagpaaW.PrintWords Go.Proofs.YtmjkkkllmpagpaaW.PrintLast
open Go.Proofs.Ytmjkkkllmpagpaa.Aid
set_option linter.unusedVariables false
set_option linter.unusedSimpArgs false

theorem ug_place (a : Int) {n : Int} (h0 : 0 < n) (h1 : n ≤ 9223372036854775807) : beguinagelaw00_Place.f a n = some (a % n) := place a h0 h1

/-- What a segment gives against another one, without wraps. -/
theorem ug_better {s l a m b : Int} (x y : Bool) (hs0 : 1 ≤ s) (hs1 : s ≤ 64) (hl0 : 0 ≤ l) (hl1 : l ≤ s) (hm0 : 0 ≤ m) (hm1 : m ≤ s) (ha0 : 0 ≤ a) (ha1 : a ≤ 1099511627776) (hb0 : 0 ≤ b) (hb1 : b ≤ 1099511627776) :
    usage_Better.f s l a x m b y = some (decide ((s - l) * (a + 1) * (s + m) > (s - m) * (b + 1) * (s + l))) := by
  have e0 : mx 1 (mn s 64) = s := by unfold mx mn; omega
  have e1 : mx 0 (mn l s) = l := by unfold mx mn; omega
  have e2 : mx 0 (mn m s) = m := by unfold mx mn; omega
  have e3 : mx 0 (mn a 1099511627776) = a := by unfold mx mn; omega
  have e4 : mx 0 (mn b 1099511627776) = b := by unfold mx mn; omega
  have p1 := mul_bd (a := s - l) (b := a + 1) (A := 64) (B := 1099511627777) (by omega) (by omega) (by omega) (by omega)
  have p2 := mul_bd (a := s - m) (b := b + 1) (A := 64) (B := 1099511627777) (by omega) (by omega) (by omega) (by omega)
  have p3 := mul_bd (a := (s - l) * (a + 1)) (b := s + m) (A := 64 * 1099511627777) (B := 128) p1.1 p1.2 (by omega) (by omega)
  have p4 := mul_bd (a := (s - m) * (b + 1)) (b := s + l) (A := 64 * 1099511627777) (B := 128) p2.1 p2.2 (by omega) (by omega)
  unfold usage_Better.f usage_gain.f usage_cut.f
  simp only [Option.bind_some, e0, e1, e2, e3, e4]
  rw [w64 (x := s - l) (by omega) (by omega), w64 (x := s - m) (by omega) (by omega), w64 (x := a + 1) (by omega) (by omega), w64 (x := b + 1) (by omega) (by omega),
    w64 (x := s + m) (by omega) (by omega), w64 (x := s + l) (by omega) (by omega), w64 (x := (s - l) * (a + 1)) (by omega) (by omega), w64 (x := (s - m) * (b + 1)) (by omega) (by omega),
    w64 (x := (s - l) * (a + 1) * (s + m)) (by omega) (by omega), w64 (x := (s - m) * (b + 1) * (s + l)) (by omega) (by omega)]

theorem UsageGains : beguinagelaw19_UsageGains.Pure := by
  intro a0 a1 a2 a3 w0 w1 w2 w3
  have h0 := Int.emod_nonneg a0 (show (64 : Int) ≠ 0 by omega)
  have h1 := Int.emod_lt_of_pos a0 (show (0 : Int) < 64 by omega)
  obtain ⟨k, aw⟩ : ∃ k, beguinagelaw19_awake.f k = some true := ⟨20, by decide +kernel⟩
  refine ⟨k, ?_⟩
  unfold beguinagelaw19_UsageGains.f
  rw [ug_place a0 (by omega) (by omega)]
  generalize a0 % 64 = s at *
  have e1 : wrap64 (1 + s) = 1 + s := w64 (by omega) (by omega)
  simp only [Option.bind_some, e1]
  rw [ug_place a1 (by omega) (by omega), ug_place a2 (by omega) (by omega)]
  have h2 := Int.emod_nonneg a1 (show 1 + s ≠ 0 by omega)
  have h3 := Int.emod_lt_of_pos a1 (show (0 : Int) < 1 + s by omega)
  have h4 := Int.emod_nonneg a2 (show (1073741824 : Int) ≠ 0 by omega)
  have h5 := Int.emod_lt_of_pos a2 (show (0 : Int) < 1073741824 by omega)
  have h6 := Int.emod_nonneg a3 (show (100 : Int) ≠ 0 by omega)
  have h7 := Int.emod_lt_of_pos a3 (show (0 : Int) < 100 by omega)
  generalize a1 % (1 + s) = l at *
  generalize a2 % 1073741824 = a at *
  have e2 : wrap64 (1 + l) = 1 + l := w64 (by omega) (by omega)
  have e3 : wrap64 (a + 1073741824) = a + 1073741824 := w64 (by omega) (by omega)
  have e4 : wrap64 (a + 1) = a + 1 := w64 (by omega) (by omega)
  simp only [Option.bind_some, e2, e3, e4]
  rw [ug_place a3 (by omega) (by omega)]
  generalize a3 % 100 = d at *
  have e5 : wrap64 (a + 1 + d) = a + 1 + d := w64 (by omega) (by omega)
  have pos1 : 0 < (1 + s) * (a + 1) := Int.mul_pos (by omega) (by omega)
  have b1 : usage_Better.f (1 + s) 0 a false (1 + l) a false = some true := by
    rw [ug_better false false (by omega) (by omega) (by omega) (by omega) (by omega) (by omega) (by omega) (by omega) (by omega) (by omega)]
    refine congrArg some (decide_eq_true ?_)
    have q1 : (1 + s - (1 + l)) * (a + 1) * (1 + s + 0) ≤ (1 + s) * (a + 1) * (1 + s) :=
      Int.mul_le_mul (Int.mul_le_mul (by omega) (by omega) (by omega) (by omega)) (by omega) (by omega) (by omega)
    have q2 : (1 + s - 0) * (a + 1) * (1 + s + (1 + l)) = (1 + s) * (a + 1) * (1 + s) + (1 + s) * (a + 1) * (1 + l) := by
      rw [Int.sub_zero, Int.mul_add]
    have q3 : 0 < (1 + s) * (a + 1) * (1 + l) := Int.mul_pos pos1 (by omega)
    omega
  have b2 : usage_Better.f (1 + s) (1 + s) (a + 1073741824) false (1 + l) a false = some false := by
    rw [ug_better false false (by omega) (by omega) (by omega) (by omega) (by omega) (by omega) (by omega) (by omega) (by omega) (by omega)]
    refine congrArg some (decide_eq_false ?_)
    have q1 : (1 + s - (1 + s)) * (a + 1073741824 + 1) * (1 + s + (1 + l)) = 0 := by
      rw [Int.sub_self, Int.zero_mul, Int.zero_mul]
    have q2 : 0 ≤ (1 + s - (1 + l)) * (a + 1) * (1 + s + (1 + s)) := Int.mul_nonneg (Int.mul_nonneg (by omega) (by omega)) (by omega)
    omega
  have b3 : usage_Better.f (1 + s) (1 + l) a false (1 + s) (a + 1073741824) false = some (decide (1 + l < 1 + s)) := by
    rw [ug_better false false (by omega) (by omega) (by omega) (by omega) (by omega) (by omega) (by omega) (by omega) (by omega) (by omega)]
    refine congrArg some (decide_eq_decide.mpr ?_)
    have q1 : (1 + s - (1 + s)) * (a + 1073741824 + 1) * (1 + s + (1 + l)) = 0 := by
      rw [Int.sub_self, Int.zero_mul, Int.zero_mul]
    rw [q1]
    constructor
    · intro h
      rcases Int.lt_or_le (1 + l) (1 + s) with h8 | h8
      · exact h8
      · have : 1 + s - (1 + l) = 0 := by omega
        rw [this, Int.zero_mul, Int.zero_mul] at h
        omega
    · intro h
      exact Int.mul_pos (Int.mul_pos (by omega) (by omega)) (by omega)
  have b4 : usage_Better.f (1 + s) (1 + l) (a + 1 + d) false (1 + l) a false = some (decide (1 + l < 1 + s)) := by
    rw [ug_better false false (by omega) (by omega) (by omega) (by omega) (by omega) (by omega) (by omega) (by omega) (by omega) (by omega)]
    refine congrArg some (decide_eq_decide.mpr ?_)
    constructor
    · intro h
      rcases Int.lt_or_le (1 + l) (1 + s) with h8 | h8
      · exact h8
      · have : 1 + s - (1 + l) = 0 := by omega
        rw [this, Int.zero_mul, Int.zero_mul, Int.zero_mul] at h
        omega
    · intro h
      exact Int.mul_lt_mul_of_pos_right (Int.mul_lt_mul_of_pos_left (by omega) (by omega)) (by omega)
  simp only [Option.bind_some, e5, b1, b2, b3, b4, aw, if_true, beq_self_eq_true]
  rfl

end Go.Proofs.Ytmjkkkllmpagpaa.Pure
