/- Plain lemmas on whole numbers that the pure statements of this seat share: wrap64, Place's remainder, truncated division, min and max. No program is in sight. -/
import Derived.RowKit
import Derived.Test.YtmjkkkllmpagpaaWMore
namespace Go.Proofs.Ytmjkkkllmpagpaa.Aid
open Go.RowKit Go.Proofs.YtmjkkkllmpagpaaW.PrintWords

theorem w64 {x : Int} (h0 : -9223372036854775808 ≤ x) (h1 : x ≤ 9223372036854775807) : wrap64 x = x := by
  unfold wrap64; omega
theorem w64_bd (x : Int) : -9223372036854775808 ≤ wrap64 x ∧ wrap64 x ≤ 9223372036854775807 := by
  unfold wrap64; omega
theorem wf_bd {x : Int} (h : (Lit.int .i64 x).wf = true) : -9223372036854775808 ≤ x ∧ x ≤ 9223372036854775807 := by
  simp only [Lit.wf, IntKind.min, IntKind.max, IntKind.signed, IntKind.bits, Bool.and_eq_true, decide_eq_true_eq, if_true] at h
  omega
theorem bd_wf {x : Int} (h0 : -9223372036854775808 ≤ x) (h1 : x ≤ 9223372036854775807) : (Lit.int .i64 x).wf = true := by
  simp only [Lit.wf, IntKind.min, IntKind.max, IntKind.signed, IntKind.bits, Bool.and_eq_true, decide_eq_true_eq, if_true]
  omega
theorem tdiv_pos' {a : Int} (n : Int) (h : 0 ≤ a) : Int.tdiv a n = a / n := Int.tdiv_eq_ediv_of_nonneg h
theorem tmod_pos' {a : Int} (n : Int) (h : 0 ≤ a) : Int.tmod a n = a % n := Int.tmod_eq_emod_of_nonneg h

/-- Place: the remainder that is not below 0. -/
theorem place (a : Int) {n : Int} (h0 : 0 < n) (h1 : n ≤ 9223372036854775807) :
    (if n = 0 then (none : Option Int) else (if (Int.tmod a n) < 0 then (some (wrap64 ((Int.tmod a n) + n))) else (some (Int.tmod a n)))) = some (a % n) := by
  have hm := Int.emod_nonneg a (show n ≠ 0 by omega)
  have hl := Int.emod_lt_of_pos a h0
  rw [if_neg (by omega)]
  rcases Int.lt_or_le a 0 with h | h
  · have e : Int.tmod a n = -((-a) % n) := by
      have : a = -(-a) := by omega
      rw [this, Int.neg_tmod, Int.tmod_eq_emod_of_nonneg (by omega)]; simp
    have hb := Int.emod_nonneg (-a) (show n ≠ 0 by omega)
    have hb2 := Int.emod_lt_of_pos (-a) h0
    rcases Int.lt_or_le 0 ((-a) % n) with h3 | h3
    · rw [e, if_pos (by omega)]
      have : a % n = -((-a) % n) + n := by
        have ed := Int.mul_ediv_add_emod (-a) n
        have h5 : a = (-((-a) % n) + n) + n * (-((-a) / n) - 1) := by rw [Int.mul_sub, Int.mul_neg]; omega
        have h6 : a % n = ((-((-a) % n) + n) + n * (-((-a) / n) - 1)) % n := congrArg (· % n) h5
        rw [h6, Int.add_mul_emod_self_left, Int.emod_eq_of_lt (by omega) (by omega)]
      rw [w64 (by omega) (by omega), this]
    · have h6 : (-a) % n = 0 := by omega
      rw [e, if_neg (by omega), h6]
      have h7 : n ∣ a := by
        have := Int.dvd_of_emod_eq_zero h6
        exact (Int.dvd_neg).mp this
      rw [Int.emod_eq_zero_of_dvd h7]; simp
  · rw [Int.tmod_eq_emod_of_nonneg h, if_neg (by omega)]

theorem mx_def (a b : Int) : mx a b = if a < b then b else a := rfl
theorem mn_def (a b : Int) : mn a b = if b < a then b else a := rfl
theorem mx_max (a b : Int) : mx a b = max a b := by unfold mx; omega
theorem mn_min (a b : Int) : mn a b = min a b := by unfold mn; omega

theorem mul_bd {a b A B : Int} (h0 : 0 ≤ a) (h1 : a ≤ A) (h2 : 0 ≤ b) (h3 : b ≤ B) : 0 ≤ a * b ∧ a * b ≤ A * B :=
  ⟨Int.mul_nonneg h0 h2, Int.mul_le_mul h1 h3 h2 (by omega)⟩

end Go.Proofs.Ytmjkkkllmpagpaa.Aid
