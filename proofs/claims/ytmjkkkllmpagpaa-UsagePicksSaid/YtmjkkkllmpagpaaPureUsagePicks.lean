/- UsagePicks, the plain law: at every list of numbers and every n the printed function of the statement answers true. Conditions: the list's length as the row bounds it; its numbers and n are int's. -/
import Derived.Test.YtmjkkkllmpagpaaPUsagePicksx2
import Derived.Test.YtmjkkkllmpagpaaAid
import Derived.Test.YtmjkkkllmpagpaaSized
namespace Go.Proofs.Ytmjkkkllmpagpaa.Pure
open Go.RowKit Go.Proofs.Ytmjkkkllmpagpaa.PUsagePicks Go.Proofs.YtmjkkkllmpagpaaW.PrintWords Go.Proofs.YtmjkkkllmpagpaaW.PrintLast
open Go.Proofs.Ytmjkkkllmpagpaa.Aid
set_option linter.unusedVariables false
set_option linter.unusedSimpArgs false
namespace Up

theorem up_place (a : Int) {n : Int} (h0 : 0 < n) (h1 : n ≤ 9223372036854775807) : beguinagelaw00_Place.f a n = some (a % n) := place a h0 h1

def num (s : Int) (x : S36) : Int := (s - x.f0) * (x.f1 + 1)
def den (s : Int) (x : S36) : Int := s + x.f0
def Okd (s : Int) (x : S36) : Prop := 0 ≤ x.f0 ∧ x.f0 ≤ s ∧ 0 ≤ x.f1 ∧ x.f1 ≤ 1099511627776
abbrev Good (s : Int) (x : S36) : Prop := x.f2 = false ∧ x.f0 < s
def Bet (s : Int) (x y : S36) : Prop := num s y * den s x < num s x * den s y

theorem better {s : Int} {x y : S36} (hs0 : 1 ≤ s) (hs1 : s ≤ 64) (hx : Okd s x) (hy : Okd s y) :
    ∃ b, usage_Better.f s x.f0 x.f1 x.f2 y.f0 y.f1 y.f2 = some b ∧ (b = true ↔ Bet s x y) := by
  obtain ⟨l, a, p⟩ := x
  obtain ⟨m, b, q⟩ := y
  obtain ⟨hl0, hl1, ha0, ha1⟩ := hx
  obtain ⟨hm0, hm1, hb0, hb1⟩ := hy
  simp only at hl0 hl1 ha0 ha1 hm0 hm1 hb0 hb1 ⊢
  have e0 : mx 1 (mn s 64) = s := by unfold mx mn; omega
  have e1 : mx 0 (mn l s) = l := by unfold mx mn; omega
  have e2 : mx 0 (mn m s) = m := by unfold mx mn; omega
  have e3 : mx 0 (mn a 1099511627776) = a := by unfold mx mn; omega
  have e4 : mx 0 (mn b 1099511627776) = b := by unfold mx mn; omega
  have p1 := mul_bd (a := s - l) (b := a + 1) (A := 64) (B := 1099511627777) (by omega) (by omega) (by omega) (by omega)
  have p2 := mul_bd (a := s - m) (b := b + 1) (A := 64) (B := 1099511627777) (by omega) (by omega) (by omega) (by omega)
  have p3 := mul_bd (a := (s - l) * (a + 1)) (b := s + m) (A := 64 * 1099511627777) (B := 128) p1.1 p1.2 (by omega) (by omega)
  have p4 := mul_bd (a := (s - m) * (b + 1)) (b := s + l) (A := 64 * 1099511627777) (B := 128) p2.1 p2.2 (by omega) (by omega)
  refine ⟨decide ((s - l) * (a + 1) * (s + m) > (s - m) * (b + 1) * (s + l)), ?_, by simp [Bet, num, den]⟩
  unfold usage_Better.f usage_gain.f usage_cut.f
  simp only [Option.bind_some, e0, e1, e2, e3, e4]
  rw [w64 (x := s - l) (by omega) (by omega), w64 (x := s - m) (by omega) (by omega), w64 (x := a + 1) (by omega) (by omega), w64 (x := b + 1) (by omega) (by omega),
    w64 (x := s + m) (by omega) (by omega), w64 (x := s + l) (by omega) (by omega), w64 (x := (s - l) * (a + 1)) (by omega) (by omega), w64 (x := (s - m) * (b + 1)) (by omega) (by omega),
    w64 (x := (s - l) * (a + 1) * (s + m)) (by omega) (by omega), w64 (x := (s - m) * (b + 1) * (s + l)) (by omega) (by omega)]

theorem bet_trans {s : Int} {i b j : S36} (hs : 1 ≤ s) (hi : Okd s i) (hb : Okd s b) (hj : Okd s j) (h1 : ¬ Bet s j b) (h2 : Bet s i b) : Bet s i j := by
  unfold Bet at *
  have di : 0 < den s i := by unfold den; have := hi.1; omega
  have db : 0 < den s b := by unfold den; have := hb.1; omega
  have dj : 0 < den s j := by unfold den; have := hj.1; omega
  generalize num s i = ni at *
  generalize num s b = nb at *
  generalize num s j = nj at *
  generalize den s i = ei at *
  generalize den s b = eb at *
  generalize den s j = ej at *
  have h1' : nj * eb ≤ nb * ej := by omega
  have q1 : nj * eb * ei ≤ nb * ej * ei := Int.mul_le_mul_of_nonneg_right h1' (by omega)
  have q2 : nb * ei * ej < ni * eb * ej := Int.mul_lt_mul_of_pos_right h2 dj
  have r1 : nj * eb * ei = (nj * ei) * eb := by rw [Int.mul_assoc, Int.mul_comm eb ei, ← Int.mul_assoc]
  have r2 : nb * ej * ei = nb * ei * ej := by rw [Int.mul_assoc, Int.mul_comm ej ei, ← Int.mul_assoc]
  have r3 : ni * eb * ej = (ni * ej) * eb := by rw [Int.mul_assoc, Int.mul_comm eb ej, ← Int.mul_assoc]
  have q3 : (nj * ei) * eb < (ni * ej) * eb := by omega
  exact Int.lt_of_mul_lt_mul_right q3 (by omega)

def Inv (s : Int) (l : List S36) (i best : Int) (ok : Bool) : Prop :=
  0 ≤ best ∧ (ok = true → best < i ∧ Good s (rd_T36 l best) ∧ ∀ j, 0 ≤ j → j < i → Good s (rd_T36 l j) → ¬ Bet s (rd_T36 l j) (rd_T36 l best) ∧ (j < best → Bet s (rd_T36 l best) (rd_T36 l j))) ∧
  (ok = false → best = 0 ∧ ∀ j, 0 ≤ j → j < i → ¬ Good s (rd_T36 l j))

theorem ok_at {s : Int} {l : List S36} (h : ∀ x ∈ l, Okd s x) {i : Int} (h0 : 0 ≤ i) (h1 : i < l.length) : Okd s (rd_T36 l i) := by
  unfold rd_T36
  have : i.toNat < l.length := by omega
  rw [List.getD_eq_getElem?_getD, List.getElem?_eq_getElem this]
  exact h _ (List.getElem_mem this)

theorem bet_irrefl {s : Int} {x : S36} : ¬ Bet s x x := by unfold Bet; omega

theorem pick_loop {s : Int} {l : List S36} (hs0 : 1 ≤ s) (hs1 : s ≤ 64) (hl : ∀ x ∈ l, Okd s x) (hn : l.length ≤ 1000) (d : Nat) :
    ∀ (i best : Int) (ok : Bool), 0 ≤ i → (l.length : Int) - i = d → Inv s l i best ok →
    ∃ K b o, Inv s l l.length b o ∧ ∀ k, K ≤ k → usage_Pick.l0 k s l best ok l.length i = some (b, o) := by
  induction d with
  | zero =>
    intro i best ok h0 hd hinv
    have : i = l.length := by omega
    subst this
    refine ⟨1, best, ok, hinv, fun k hk => ?_⟩
    obtain ⟨k, rfl⟩ : ∃ m, k = m + 1 := ⟨k - 1, by omega⟩
    rw [usage_Pick.l0]
    rw [if_neg (by omega)]
  | succ d ih =>
    intro i best ok h0 hd hinv
    have hlt : i < (l.length : Int) := by omega
    have hx := ok_at hl h0 hlt
    have hw : wrap64 (i + 1) = i + 1 := w64 (by omega) (by omega)
    -- the test of the element, and the function behind it
    have hhead : ∀ k, usage_Pick.l0 (k + 1) s l best ok l.length i = usage_Pick.j1 k s l best ok i l.length i (decide (¬ Good s (rd_T36 l i))) := by
      intro k
      rw [usage_Pick.l0]
      rw [if_pos hlt, if_pos h0, if_pos hlt]
      by_cases hb : (rd_T36 l i).f2 = true
      · rw [if_pos hb]
        have : ¬ Good s (rd_T36 l i) := fun h => by rw [h.1] at hb; cases hb
        rw [decide_eq_true this]
      · rw [if_neg hb]
        have hb' : (rd_T36 l i).f2 = false := by simpa using hb
        have e1 : mx 0 (mn (rd_T36 l i).f0 s) = (rd_T36 l i).f0 := by have := hx.1; have := hx.2.1; unfold mx mn; omega
        unfold usage_cut.f
        simp only [Option.bind_some, e1]
        congr 1
        rw [decide_eq_decide]
        unfold Good
        rw [hb']
        constructor
        · intro h hg; have := hg.2; omega
        · intro h
          rcases Int.lt_or_le (rd_T36 l i).f0 s with h9 | h9
          · exact absurd ⟨rfl, h9⟩ h
          · exact h9
    by_cases hg : Good s (rd_T36 l i)
    · -- it may be picked
      cases ok with
      | false =>
        have hnew : Inv s l (i + 1) i true := by
          refine ⟨h0, fun _ => ⟨by omega, hg, fun j hj0 hj1 hgj => ?_⟩, (fun h => by cases h)⟩
          rcases Int.lt_or_le j i with h9 | h9
          · exact absurd hgj ((hinv.2.2 rfl).2 j hj0 h9)
          · have : j = i := by omega
            subst this
            exact ⟨bet_irrefl, fun h => by omega⟩
        obtain ⟨K, b, o, hi, hk⟩ := ih (i + 1) i true (by omega) (by omega) hnew
        refine ⟨K + 2, b, o, hi, fun k hkk => ?_⟩
        obtain ⟨k, rfl⟩ : ∃ m, k = m + 1 + 1 := ⟨k - 2, by omega⟩
        rw [hhead, decide_eq_false (by simpa using hg)]
        rw [usage_Pick.j1]
        rw [if_neg (by simp), if_neg (by simp), hw]
        exact hk k (by omega)
      | true =>
        obtain ⟨hb1, hb2, hb3⟩ := hinv.2.1 rfl
        have hbx := ok_at hl hinv.1 (show best < (l.length : Int) by omega)
        obtain ⟨b0, e0, hb0⟩ := better hs0 hs1 hx hbx
        have hj1 : ∀ k, usage_Pick.j1 (k + 1) s l best true i l.length i false = if b0 = true then usage_Pick.l0 k s l i true l.length (i + 1) else usage_Pick.l0 k s l best true l.length (i + 1) := by
          intro k
          rw [usage_Pick.j1]
          rw [if_neg (by simp), if_pos rfl, if_pos h0, if_pos hlt, if_pos hinv.1, if_pos (by omega), e0]
          simp only [Option.bind_some]
          rw [hw]
        by_cases hbb : b0 = true
        · have hbet := hb0.1 hbb
          have hnew : Inv s l (i + 1) i true := by
            refine ⟨h0, fun _ => ⟨by omega, hg, fun j hj0 hj1 hgj => ?_⟩, (fun h => by cases h)⟩
            rcases Int.lt_or_le j i with h9 | h9
            · have hjx := ok_at hl hj0 (show j < (l.length : Int) by omega)
              have hij := bet_trans hs0 hx hbx hjx (hb3 j hj0 h9 hgj).1 hbet
              exact ⟨fun h => by unfold Bet at h hij; omega, fun _ => hij⟩
            · have : j = i := by omega
              subst this
              exact ⟨bet_irrefl, fun h => by omega⟩
          obtain ⟨K, b, o, hi, hk⟩ := ih (i + 1) i true (by omega) (by omega) hnew
          refine ⟨K + 2, b, o, hi, fun k hkk => ?_⟩
          obtain ⟨k, rfl⟩ : ∃ m, k = m + 1 + 1 := ⟨k - 2, by omega⟩
          rw [hhead, decide_eq_false (by simpa using hg), hj1, if_pos hbb]
          exact hk k (by omega)
        · have hnb : ¬ Bet s (rd_T36 l i) (rd_T36 l best) := fun h => hbb (hb0.2 h)
          have hnew : Inv s l (i + 1) best true := by
            refine ⟨hinv.1, fun _ => ⟨by omega, hb2, fun j hj0 hj1 hgj => ?_⟩, (fun h => by cases h)⟩
            rcases Int.lt_or_le j i with h9 | h9
            · exact hb3 j hj0 h9 hgj
            · have : j = i := by omega
              subst this
              exact ⟨hnb, fun h => by omega⟩
          obtain ⟨K, b, o, hi, hk⟩ := ih (i + 1) best true (by omega) (by omega) hnew
          refine ⟨K + 2, b, o, hi, fun k hkk => ?_⟩
          obtain ⟨k, rfl⟩ : ∃ m, k = m + 1 + 1 := ⟨k - 2, by omega⟩
          rw [hhead, decide_eq_false (by simpa using hg), hj1, if_neg hbb]
          exact hk k (by omega)
    · have hnew : Inv s l (i + 1) best ok := by
        refine ⟨hinv.1, fun ho => ?_, fun ho => ?_⟩
        · obtain ⟨hb1, hb2, hb3⟩ := hinv.2.1 ho
          refine ⟨by omega, hb2, fun j hj0 hj1 hgj => ?_⟩
          rcases Int.lt_or_le j i with h9 | h9
          · exact hb3 j hj0 h9 hgj
          · have : j = i := by omega
            subst this
            exact absurd hgj hg
        · obtain ⟨hb1, hb2⟩ := hinv.2.2 ho
          refine ⟨hb1, fun j hj0 hj1 => ?_⟩
          rcases Int.lt_or_le j i with h9 | h9
          · exact hb2 j hj0 h9
          · have : j = i := by omega
            subst this
            exact hg
      obtain ⟨K, b, o, hi, hk⟩ := ih (i + 1) best ok (by omega) (by omega) hnew
      refine ⟨K + 2, b, o, hi, fun k hkk => ?_⟩
      obtain ⟨k, rfl⟩ : ∃ m, k = m + 1 + 1 := ⟨k - 2, by omega⟩
      rw [hhead, decide_eq_true hg]
      rw [usage_Pick.j1]
      rw [if_pos rfl, hw]
      exact hk k (by omega)

theorem pick {s : Int} {l : List S36} (hs0 : 1 ≤ s) (hs1 : s ≤ 64) (hl : ∀ x ∈ l, Okd s x) (hn : l.length ≤ 1000) :
    ∃ K b o, Inv s l l.length b o ∧ ∀ k, K ≤ k → usage_Pick.f k s l = some (b, o) := by
  obtain ⟨K, b, o, hi, hk⟩ := pick_loop hs0 hs1 hl hn l.length 0 0 false (by omega) (by omega) ⟨by omega, (fun h => by cases h), fun _ => ⟨rfl, fun j h0 h1 => by omega⟩⟩
  refine ⟨K, b, o, hi, fun k hkk => ?_⟩
  have e0 : mx 1 (mn s 64) = s := by unfold mx mn; omega
  unfold usage_Pick.f usage_cut.f
  simp only [Option.bind_some, e0]
  exact hk k hkk

theorem awake_ev : ∃ K, ∀ k, K ≤ k → beguinagelaw19_awake.f k = some true := by
  have h : beguinagelaw19_awake.f 20 = some true := by decide +kernel
  exact ⟨20, fun k hk => at_rounds (fun k => beguinagelaw19_awake.mono k) hk h⟩

/-- The statement's own loop over what was made: what is picked is the best. -/
theorem look_loop {s : Int} {l : List S36} {b : Int} {o : Bool} (hs0 : 1 ≤ s) (hs1 : s ≤ 64) (hl : ∀ x ∈ l, Okd s x) (hn : l.length ≤ 1000) (hi : Inv s l l.length b o) (d : Nat) :
    ∀ (i : Int) (any : Bool), 0 ≤ i → (l.length : Int) - i = d → (any = true ↔ ∃ j, 0 ≤ j ∧ j < i ∧ Good s (rd_T36 l j)) →
    ∃ K, ∀ k, K ≤ k → beguinagelaw19_UsagePicks.l1 k s l b o any i = some true := by
  induction d with
  | zero =>
    intro i any h0 hd hany
    have : i = l.length := by omega
    subst this
    obtain ⟨K, haw⟩ := awake_ev
    refine ⟨K + 1, fun k hk => ?_⟩
    obtain ⟨k, rfl⟩ : ∃ m, k = m + 1 := ⟨k - 1, by omega⟩
    rw [beguinagelaw19_UsagePicks.l1]
    rw [if_neg (by omega)]
    cases o with
    | true =>
      obtain ⟨hb1, hb2, hb3⟩ := hi.2.1 rfl
      have : any = true := hany.2 ⟨b, hi.1, hb1, hb2⟩
      subst this
      rw [if_pos (show (true == true) = true from rfl), if_pos rfl, if_pos hi.1, if_pos hb1, if_neg (by rw [hb2.1]; simp), if_pos hb2.2, haw k (by omega)]; rfl
    | false =>
      obtain ⟨hb1, hb2⟩ := hi.2.2 rfl
      have : any = false := by
        cases any with
        | false => rfl
        | true =>
          obtain ⟨j, hj0, hj1, hj2⟩ := hany.1 rfl
          exact absurd hj2 (hb2 j hj0 hj1)
      subst this
      rw [if_pos (show (false == false) = true from rfl), if_neg (by simp), if_pos hb1, haw k (by omega)]; rfl
  | succ d ih =>
    intro i any h0 hd hany
    have hlt : i < (l.length : Int) := by omega
    have hx := ok_at hl h0 hlt
    have hw : wrap64 (i + 1) = i + 1 := w64 (by omega) (by omega)
    have hhead : ∀ k, beguinagelaw19_UsagePicks.l1 (k + 1) s l b o any i = beguinagelaw19_UsagePicks.j4 k s l b o any i (decide (Good s (rd_T36 l i))) := by
      intro k
      rw [beguinagelaw19_UsagePicks.l1]
      rw [if_pos hlt, if_pos h0]
      by_cases hb : (rd_T36 l i).f2 = true
      · rw [if_pos hb, decide_eq_false (fun h : Good s (rd_T36 l i) => by rw [h.1] at hb; cases hb)]
      · rw [if_neg hb]
        have hb' : (rd_T36 l i).f2 = false := by simpa using hb
        congr 1
        rw [decide_eq_decide]
        exact ⟨fun h => ⟨hb', h⟩, fun h => h.2⟩
    have hhead2 : ∀ k, beguinagelaw19_UsagePicks.l1 (k + 1 + 1) s l b o any i = beguinagelaw19_UsagePicks.j5 k s l b o (any || decide (Good s (rd_T36 l i))) i (decide (Good s (rd_T36 l i))) := by
      intro k
      rw [hhead]
      rw [beguinagelaw19_UsagePicks.j4]
      cases any with
      | true => rw [if_pos rfl]; rfl
      | false => rw [if_neg (by simp)]; rfl
    have hany' : (any || decide (Good s (rd_T36 l i))) = true ↔ ∃ j, 0 ≤ j ∧ j < i + 1 ∧ Good s (rd_T36 l j) := by
      rw [Bool.or_eq_true, decide_eq_true_eq, hany]
      constructor
      · rintro (⟨j, a, c, e⟩ | h)
        · exact ⟨j, a, by omega, e⟩
        · exact ⟨i, h0, by omega, h⟩
      · rintro ⟨j, a, c, e⟩
        rcases Int.lt_or_le j i with h9 | h9
        · exact .inl ⟨j, a, h9, e⟩
        · have : j = i := by omega
          subst this
          exact .inr e
    obtain ⟨K, hk⟩ := ih (i + 1) _ (by omega) (by omega) hany'
    refine ⟨K + 3, fun k hkk => ?_⟩
    obtain ⟨k, rfl⟩ : ∃ m, k = m + 1 + 1 + 1 := ⟨k - 3, by omega⟩
    rw [hhead2]
    have hnext := hk k (by omega)
    rw [beguinagelaw19_UsagePicks.j5]
    by_cases hg : Good s (rd_T36 l i)
    · rw [decide_eq_true hg] at hnext ⊢
      rw [if_pos rfl]
      cases o with
      | true =>
        obtain ⟨hb1, hb2, hb3⟩ := hi.2.1 rfl
        have hbx := ok_at hl hi.1 hb1
        obtain ⟨b0, e0, hb0⟩ := better hs0 hs1 hx hbx
        obtain ⟨b1, e1, hb1'⟩ := better hs0 hs1 hbx hx
        have hq := hb3 i h0 hlt hg
        have hf : b0 = false := by
          cases b0 with
          | false => rfl
          | true => exact absurd (hb0.1 rfl) hq.1
        rw [if_pos rfl, if_pos h0, if_pos hlt, if_pos hi.1, if_pos hb1, e0]
        simp only [Option.bind_some]
        rw [hf, if_neg (by simp)]
        by_cases hib : i < b
        · rw [if_pos hib, e1]
          simp only [Option.bind_some]
          rw [if_pos (hb1'.2 (hq.2 hib)), hw]
          exact hnext
        · rw [if_neg hib, hw]
          exact hnext
      | false =>
        rw [if_neg (by simp), hw]
        exact hnext
    · rw [decide_eq_false hg] at hnext ⊢
      rw [if_neg (by simp), hw]
      exact hnext

theorem judge_ {s : Int} {l : List S36} (hs0 : 1 ≤ s) (hs1 : s ≤ 64) (hl : ∀ x ∈ l, Okd s x) (hn : l.length ≤ 1000) :
    ∃ K, ∀ k, K ≤ k → beguinagelaw19_UsagePicks.j1 k s l = some true := by
  obtain ⟨K, b, o, hi, hp⟩ := pick hs0 hs1 hl hn
  obtain ⟨K2, hk2⟩ := look_loop hs0 hs1 hl hn hi l.length 0 false (by omega) (by omega) ⟨(fun h => by cases h), (fun ⟨j, h0, h1, _⟩ => by omega)⟩
  refine ⟨K + K2 + 2, fun k hk => ?_⟩
  obtain ⟨k, rfl⟩ : ∃ m, k = m + 1 + 1 := ⟨k - 2, by omega⟩
  have e : beguinagelaw19_UsagePicks.j2 (k + 1) s l b o false = some true := by
    rw [beguinagelaw19_UsagePicks.j2]
    rw [if_neg (by simp)]
    exact hk2 k (by omega)
  rw [beguinagelaw19_UsagePicks.j1, hp (k + 1) (by omega)]
  simp only [Option.bind_some]
  rw [if_neg (by have := hi.1; omega)]
  cases o with
  | true =>
    rw [if_pos rfl, decide_eq_false (by have := (hi.2.1 rfl).1; omega)]
    exact e
  | false =>
    rw [if_neg (by simp)]
    exact e

theorem make_loop {s : Int} {x0 : List Int} (hs0 : 1 ≤ s) (hs1 : s ≤ 64) (d : Nat) :
    ∀ (i : Int) (l : List S36), 0 ≤ i → 40 - i = d → (l.length : Int) = i → (∀ x ∈ l, Okd s x) →
    ∃ K, ∀ k, K ≤ k → beguinagelaw19_UsagePicks.l0 k x0 s l i = some true := by
  induction d with
  | zero =>
    intro i l h0 hd hn hl
    obtain ⟨K, hk⟩ := judge_ hs0 hs1 hl (by omega)
    refine ⟨K + 1, fun k hkk => ?_⟩
    obtain ⟨k, rfl⟩ : ∃ m, k = m + 1 := ⟨k - 1, by omega⟩
    rw [beguinagelaw19_UsagePicks.l0]
    by_cases h1 : i < (x0.length : Int)
    · rw [if_pos h1, if_neg (by omega)]
      exact hk k (by omega)
    · rw [if_neg h1]
      exact hk k (by omega)
  | succ d ih =>
    intro i l h0 hd hn hl
    by_cases h1 : i < (x0.length : Int)
    · have hw : wrap64 (i + 1) = i + 1 := w64 (by omega) (by omega)
      have ht0 := Int.emod_nonneg (rd x0 i) (show (1048576 : Int) ≠ 0 by omega)
      have ht1 := Int.emod_lt_of_pos (rd x0 i) (show (0 : Int) < 1048576 by omega)
      have hw2 : wrap64 (s + 1) = s + 1 := w64 (by omega) (by omega)
      have hnew : Okd s (⟨Int.tmod (rd x0 i % 1048576) (s + 1), Int.tmod (wrap64 (Int.tdiv (rd x0 i % 1048576) 65)) 50, ((Int.tmod (wrap64 (Int.tdiv (rd x0 i % 1048576) 3250)) 4) == 0)⟩ : S36) := by
        generalize rd x0 i % 1048576 = t at *
        rw [tdiv_pos' 65 ht0, w64 (x := t / 65) (by omega) (by omega), tmod_pos' _ ht0, tmod_pos' 50 (by omega)]
        have a1 := Int.emod_nonneg t (show s + 1 ≠ 0 by omega)
        have a2 := Int.emod_lt_of_pos t (show (0 : Int) < s + 1 by omega)
        exact ⟨a1, by simp only; omega, by simp only; omega, by simp only; omega⟩
      obtain ⟨K, hk⟩ := ih (i + 1) (l ++ [(⟨Int.tmod (rd x0 i % 1048576) (s + 1), Int.tmod (wrap64 (Int.tdiv (rd x0 i % 1048576) 65)) 50, ((Int.tmod (wrap64 (Int.tdiv (rd x0 i % 1048576) 3250)) 4) == 0)⟩ : S36)]) (by omega) (by omega) (by rw [List.length_append]; simp; omega) (fun x hx => by
        rcases List.mem_append.1 hx with h | h
        · exact hl x h
        · rw [List.mem_singleton.1 h]; exact hnew)
      refine ⟨K + 1, fun k hkk => ?_⟩
      obtain ⟨k, rfl⟩ : ∃ m, k = m + 1 := ⟨k - 1, by omega⟩
      rw [beguinagelaw19_UsagePicks.l0]
      rw [if_pos h1, if_pos (by omega), if_pos h0, up_place _ (by omega) (by omega)]
      simp only [Option.bind_some]
      rw [hw2, if_neg (by omega), if_pos (by omega), hw]
      exact hk k (by omega)
    · obtain ⟨K, hk⟩ := judge_ hs0 hs1 hl (by omega)
      refine ⟨K + 1, fun k hkk => ?_⟩
      obtain ⟨k, rfl⟩ : ∃ m, k = m + 1 := ⟨k - 1, by omega⟩
      rw [beguinagelaw19_UsagePicks.l0]
      rw [if_neg h1]
      exact hk k (by omega)
end Up

theorem UsagePicks : beguinagelaw19_UsagePicks.Pure := by
  intro l a1 h0 h1 h2 h3
  have q0 := Int.emod_nonneg a1 (show (64 : Int) ≠ 0 by omega)
  have q1 := Int.emod_lt_of_pos a1 (show (0 : Int) < 64 by omega)
  obtain ⟨K, hk⟩ := Up.make_loop (s := 1 + a1 % 64) (x0 := l) (by omega) (by omega) 40 0 [] (by omega) (by omega) rfl (fun x hx => by cases hx)
  refine ⟨K, ?_⟩
  unfold beguinagelaw19_UsagePicks.f
  rw [Up.up_place a1 (by omega) (by omega)]
  simp only [Option.bind_some]
  rw [w64 (by omega) (by omega)]
  exact hk K (Nat.le_refl _)

end Go.Proofs.Ytmjkkkllmpagpaa.Pure
