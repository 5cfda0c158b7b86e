/- UsageAll, the plain law: at any size and any segments the program and the reference answer alike. Conditions: the list's length as a slice has it. -/
import Derived.Test.YtmjkkkllmpagpaaPUsagex9
import Derived.Test.YtmjkkkllmpagpaaAid
namespace Go.Proofs.Ytmjkkkllmpagpaa.Pure
open Go.RowKit Go.Proofs.Ytmjkkkllmpagpaa.PUsage Go.Proofs.YtmjkkkllmpagpaaW.PrintWords Go.Proofs.YtmjkkkllmpagpaaW.PrintLast
open Go.Proofs.Ytmjkkkllmpagpaa.Aid
set_option linter.unusedVariables false
set_option linter.unusedSimpArgs false
namespace Ua

def nrm (s : Int) : Int := mx 1 (mn s 64)
theorem nrm_bd (s : Int) : 1 ≤ nrm s ∧ nrm s ≤ 64 := by unfold nrm mx mn; omega
theorem nrm_nrm (s : Int) : nrm (nrm s) = nrm s := by unfold nrm mx mn; omega
theorem nrm_ref (s : Int) : mn (mx s 1) 64 = nrm s := by unfold nrm mx mn; omega
theorem cut_ref {v m : Int} (h : 0 ≤ m) : mn (mx v 0) m = mx 0 (mn v m) := by unfold mx mn; omega
def bval (n l a m b : Int) : Bool :=
  decide (wrap64 (wrap64 (wrap64 (n - mx 0 (mn l n)) * wrap64 (mx 0 (mn a 1099511627776) + 1)) * wrap64 (n + mx 0 (mn m n))) >
    wrap64 (wrap64 (wrap64 (n - mx 0 (mn m n)) * wrap64 (mx 0 (mn b 1099511627776) + 1)) * wrap64 (n + mx 0 (mn l n))))
theorem better_p (s l a m b : Int) (p q : Bool) : usage_Better.f s l a p m b q = some (bval (nrm s) l a m b) := by
  unfold usage_Better.f usage_gain.f usage_cut.f
  simp only [Option.bind_some]
  rfl
theorem better_r (s l a m b : Int) (p q : Bool) : beguinageref19_Better.f s l a p m b q = some (bval (nrm s) l a m b) := by
  have hn := nrm_bd s
  have hs : wrap64 (nrm s - mx 0 (mn l (nrm s))) = nrm s - mx 0 (mn l (nrm s)) := w64 (by unfold mx mn; omega) (by unfold mx mn; omega)
  have hs2 : wrap64 (nrm s - mx 0 (mn m (nrm s))) = nrm s - mx 0 (mn m (nrm s)) := w64 (by unfold mx mn; omega) (by unfold mx mn; omega)
  unfold beguinageref19_Better.f beguinageref19_cut.f
  simp only [Option.bind_some, nrm_ref]
  rw [cut_ref (by omega), cut_ref (by omega), cut_ref (by omega), cut_ref (by omega)]
  rfl

def conv (x : S36) : S37 := ⟨x.f0, x.f1, x.f2⟩
theorem rd_conv (l : List S36) (i : Int) (h0 : 0 ≤ i) (h1 : i < l.length) : rd_T37 (l.map conv) i = conv (rd_T36 l i) := by
  have : i.toNat < l.length := by omega
  unfold rd_T37 rd_T36
  rw [List.getD_eq_getElem?_getD, List.getD_eq_getElem?_getD, List.getElem?_map, List.getElem?_eq_getElem this]
  rfl

theorem awake_ev : ∃ K, ∀ k, K ≤ k → beguinagelaw19_awake.f k = some true := by
  have h : beguinagelaw19_awake.f 20 = some true := by decide +kernel
  exact ⟨20, fun k hk => at_rounds (fun k => beguinagelaw19_awake.mono k) hk h⟩

def Rel (b : Int) (o : Bool) (rb : Int) : Prop := (o = false ∧ b = 0 ∧ rb = -1) ∨ (o = true ∧ rb = b ∧ 0 ≤ b)

theorem pick_loop (s : Int) (l : List S36) (hn : l.length ≤ 60) (d : Nat) : ∀ (i b : Int) (o : Bool) (rb : Int), 0 ≤ i → (l.length : Int) - i = d → Rel b o rb → (o = true → b < i) →
    ∃ K b' o' rb', Rel b' o' rb' ∧ ∀ k, K ≤ k → usage_Pick.l0 k (nrm s) l b o l.length i = some (b', o') ∧ beguinageref19_Pick.l0 k s (l.map conv) (nrm s) rb i = some (mx rb' 0, decide (rb' ≥ 0)) := by
  induction d with
  | zero =>
    intro i b o rb h0 hd hR hb
    refine ⟨1, b, o, rb, hR, fun k hk => ?_⟩
    obtain ⟨k, rfl⟩ : ∃ m, k = m + 1 := ⟨k - 1, by omega⟩
    rw [usage_Pick.l0, beguinageref19_Pick.l0, if_neg (by omega), if_neg (by rw [List.length_map]; omega)]
    exact ⟨rfl, rfl⟩
  | succ d ih =>
    intro i b o rb h0 hd hR hb
    have hlt : i < (l.length : Int) := by omega
    have hltm : i < ((l.map conv).length : Int) := by rw [List.length_map]; omega
    have hw : wrap64 (i + 1) = i + 1 := w64 (by omega) (by omega)
    have hn0 := nrm_bd s
    obtain ⟨full, hfull⟩ : ∃ q, (if (rd_T36 l i).f2 = true then true else decide (mx 0 (mn (rd_T36 l i).f0 (nrm s)) ≥ nrm s)) = q := ⟨_, rfl⟩
    have h1 : ∀ k, usage_Pick.l0 (k + 1) (nrm s) l b o l.length i = usage_Pick.j1 k (nrm s) l b o i l.length i full := by
      intro k
      rw [usage_Pick.l0, if_pos hlt, if_pos h0, if_pos hlt, ← hfull]
      by_cases hq : (rd_T36 l i).f2 = true
      · rw [if_pos hq, if_pos hq]
      · rw [if_neg hq, if_neg hq]; unfold usage_cut.f; rfl
    have h2 : ∀ k, beguinageref19_Pick.l0 (k + 1) s (l.map conv) (nrm s) rb i = beguinageref19_Pick.j1 k s (l.map conv) (nrm s) rb i full := by
      intro k
      rw [beguinageref19_Pick.l0, if_pos hltm, if_pos h0, ← hfull, rd_conv l i h0 hlt]
      by_cases hq : (rd_T36 l i).f2 = true
      · rw [if_pos (show (conv (rd_T36 l i)).f2 = true from hq), if_pos hq]
      · rw [if_neg (show ¬ (conv (rd_T36 l i)).f2 = true from hq), if_neg hq]
        unfold beguinageref19_cut.f
        simp only [Option.bind_some]
        rw [show (conv (rd_T36 l i)).f0 = (rd_T36 l i).f0 from rfl, cut_ref (by omega)]
    cases full with
    | true =>
      obtain ⟨K, b', o', rb', hR', hk⟩ := ih (i + 1) b o rb (by omega) (by omega) hR (fun h => by have := hb h; omega)
      refine ⟨K + 2, b', o', rb', hR', fun k hkk => ?_⟩
      obtain ⟨k, rfl⟩ : ∃ m, k = m + 1 + 1 := ⟨k - 2, by omega⟩
      rw [h1, h2, usage_Pick.j1, beguinageref19_Pick.j1, if_pos rfl, if_pos rfl, hw]
      exact hk k (by omega)
    | false =>
      rcases hR with ⟨rfl, rfl, rfl⟩ | ⟨rfl, rfl, hb0⟩
      · obtain ⟨K, b', o', rb', hR', hk⟩ := ih (i + 1) i true i (by omega) (by omega) (.inr ⟨rfl, rfl, h0⟩) (fun _ => by omega)
        refine ⟨K + 2, b', o', rb', hR', fun k hkk => ?_⟩
        obtain ⟨k, rfl⟩ : ∃ m, k = m + 1 + 1 := ⟨k - 2, by omega⟩
        rw [h1, h2, usage_Pick.j1, beguinageref19_Pick.j1, if_neg (by simp), if_neg (by simp), if_neg (by simp), if_pos (by omega), hw]
        exact hk k (by omega)
      · have hbi := hb rfl
        have hblt : rb < (l.length : Int) := by omega
        have hb1 : ∀ k, usage_Pick.j1 (k + 1) (nrm s) l rb true i l.length i false = (if bval (nrm s) (rd_T36 l i).f0 (rd_T36 l i).f1 (rd_T36 l rb).f0 (rd_T36 l rb).f1 = true then usage_Pick.l0 k (nrm s) l i true l.length (i + 1) else usage_Pick.l0 k (nrm s) l rb true l.length (i + 1)) := by
          intro k
          rw [usage_Pick.j1, if_neg (by simp), if_pos rfl, if_pos h0, if_pos hlt, if_pos hb0, if_pos hblt, better_p, nrm_nrm, hw]
          rfl
        have hb2 : ∀ k, beguinageref19_Pick.j1 (k + 1) s (l.map conv) (nrm s) rb i false = (if bval (nrm s) (rd_T36 l i).f0 (rd_T36 l i).f1 (rd_T36 l rb).f0 (rd_T36 l rb).f1 = true then beguinageref19_Pick.l0 k s (l.map conv) (nrm s) i (i + 1) else beguinageref19_Pick.l0 k s (l.map conv) (nrm s) rb (i + 1)) := by
          intro k
          rw [beguinageref19_Pick.j1, if_neg (by simp), if_neg (by omega), if_pos h0, if_pos hltm, if_pos hb0, if_pos (by rw [List.length_map]; exact hblt), better_r, rd_conv l i h0 hlt, rd_conv l rb hb0 hblt, hw]
          rfl
        by_cases hv : bval (nrm s) (rd_T36 l i).f0 (rd_T36 l i).f1 (rd_T36 l rb).f0 (rd_T36 l rb).f1 = true
        · obtain ⟨K, b', o', rb', hR', hk⟩ := ih (i + 1) i true i (by omega) (by omega) (.inr ⟨rfl, rfl, h0⟩) (fun _ => by omega)
          refine ⟨K + 2, b', o', rb', hR', fun k hkk => ?_⟩
          obtain ⟨k, rfl⟩ : ∃ m, k = m + 1 + 1 := ⟨k - 2, by omega⟩
          rw [h1, h2, hb1, hb2, if_pos hv, if_pos hv]
          exact hk k (by omega)
        · obtain ⟨K, b', o', rb', hR', hk⟩ := ih (i + 1) rb true rb (by omega) (by omega) (.inr ⟨rfl, rfl, hb0⟩) (fun _ => by omega)
          refine ⟨K + 2, b', o', rb', hR', fun k hkk => ?_⟩
          obtain ⟨k, rfl⟩ : ∃ m, k = m + 1 + 1 := ⟨k - 2, by omega⟩
          rw [h1, h2, hb1, hb2, if_neg hv, if_neg hv]
          exact hk k (by omega)

theorem end_ (s : Int) (l : List S36) (hn : l.length ≤ 60) (i : Int) (hi : (l.length : Int) ≤ i) : ∃ K, ∀ k, K ≤ k → beguinagelaw19_UsageAll.l1 k s l (l.map conv) i = some true := by
  obtain ⟨K, b, o, rb, hR, hk⟩ := pick_loop s l hn l.length 0 0 false (-1) (by omega) (by omega) (.inl ⟨rfl, rfl, rfl⟩) (fun h => by cases h)
  obtain ⟨K2, haw⟩ := awake_ev
  refine ⟨K + K2 + 1, fun k hkk => ?_⟩
  obtain ⟨k, rfl⟩ : ∃ m, k = m + 1 := ⟨k - 1, by omega⟩
  have p1 : usage_Pick.f k s l = some (b, o) := by
    unfold usage_Pick.f usage_cut.f
    simp only [Option.bind_some]
    exact (hk k (by omega)).1
  have p2 : beguinageref19_Pick.f k s (l.map conv) = some (mx rb 0, decide (rb ≥ 0)) := by
    unfold beguinageref19_Pick.f
    rw [nrm_ref]
    exact (hk k (by omega)).2
  rw [beguinagelaw19_UsageAll.l1, if_neg (by omega), if_pos (by simp; omega), List.nil_append, p1]
  simp only [Option.bind_some]
  rw [p2]
  simp only [Option.bind_some]
  rcases hR with ⟨rfl, rfl, rfl⟩ | ⟨rfl, rfl, hb0⟩
  · rw [if_pos (by unfold mx; omega), if_pos (by decide), haw k (by omega)]; rfl
  · rw [if_pos (by unfold mx; omega), if_pos (by rw [decide_eq_true (by omega)]; rfl), haw k (by omega)]; rfl

theorem pairs (s : Int) (l : List S36) (hn : l.length ≤ 60) (d : Nat) : ∀ i : Int, 1 ≤ i → (l.length : Int) - i ≤ d → ∃ K, ∀ k, K ≤ k → beguinagelaw19_UsageAll.l1 k s l (l.map conv) i = some true := by
  induction d with
  | zero => exact fun i _ hd => end_ s l hn i (by omega)
  | succ d ih =>
    intro i h1 hd
    by_cases hlt : i < (l.length : Int)
    · obtain ⟨K, hk⟩ := ih (i + 1) (by omega) (by omega)
      refine ⟨K + 1, fun k hkk => ?_⟩
      obtain ⟨k, rfl⟩ : ∃ m, k = m + 1 := ⟨k - 1, by omega⟩
      have hw : wrap64 (i + 1) = i + 1 := w64 (by omega) (by omega)
      have hw2 : wrap64 (i - 1) = i - 1 := w64 (by omega) (by omega)
      have hl : ((l.map conv).length : Int) = l.length := by rw [List.length_map]
      rw [beguinagelaw19_UsageAll.l1, if_pos hlt, hw2, if_pos (by omega), if_pos (by omega), if_pos (by omega), better_p]
      simp only [Option.bind_some]
      rw [hl, if_pos (by omega), if_pos hlt, better_r, rd_conv l i (by omega) hlt, rd_conv l (i - 1) (by omega) (by omega)]
      simp only [Option.bind_some]
      rw [if_neg (by simp [conv]), hw]
      exact hk k (by omega)
    · exact end_ s l hn i (by omega)

theorem make_ (s : Int) (l : List S36) (hn : l.length ≤ 60) (d : Nat) : ∀ i : Nat, i ≤ l.length → l.length - i = d → ∃ K, ∀ k, K ≤ k → beguinagelaw19_UsageAll.l0 k s l ((l.take i).map conv) (i : Int) = some true := by
  induction d with
  | zero =>
    intro i hi hd
    obtain ⟨K, hk⟩ := pairs s l hn l.length 1 (by omega) (by omega)
    refine ⟨K + 1, fun k hkk => ?_⟩
    obtain ⟨k, rfl⟩ : ∃ m, k = m + 1 := ⟨k - 1, by omega⟩
    have : i = l.length := by omega
    subst this
    rw [beguinagelaw19_UsageAll.l0, if_neg (by omega), List.take_length]
    exact hk k (by omega)
  | succ d ih =>
    intro i hi hd
    obtain ⟨K, hk⟩ := ih (i + 1) (by omega) (by omega)
    refine ⟨K + 1, fun k hkk => ?_⟩
    obtain ⟨k, rfl⟩ : ∃ m, k = m + 1 := ⟨k - 1, by omega⟩
    have hlt : i < l.length := by omega
    have hw : wrap64 ((i : Int) + 1) = ((i + 1 : Nat) : Int) := by rw [w64 (by omega) (by omega)]; omega
    have e : (l.take i).map conv ++ [(⟨(rd_T36 l i).f0, (rd_T36 l i).f1, (rd_T36 l i).f2⟩ : S37)] = (l.take (i + 1)).map conv := by
      rw [List.take_succ_eq_append_getElem hlt, List.map_append]
      congr 1
      unfold rd_T36
      rw [List.getD_eq_getElem?_getD, Int.toNat_natCast, List.getElem?_eq_getElem hlt]
      rfl
    rw [beguinagelaw19_UsageAll.l0, if_pos (by omega), if_pos (by omega), if_pos (by rw [List.length_map, List.length_take]; omega), e, hw]
    exact hk k (by omega)
end Ua

theorem UsageAll (a0 : Int) (l : List S36) (h0 : (Lit.int .i64 a0).wf = true) (h1 : l.length ≤ maxLen ∧ ∀ x_, x_ ∈ l → ((Lit.int .i64 x_.f0).wf = true ∧ (Lit.int .i64 x_.f1).wf = true ∧ True)) :
    ∃ k, beguinagelaw19_UsageAll.f k a0 l = some true := by
  by_cases hn : (l.length : Int) > 60
  · obtain ⟨K, haw⟩ := Ua.awake_ev
    refine ⟨K, ?_⟩
    unfold beguinagelaw19_UsageAll.f
    rw [if_pos hn, haw K (Nat.le_refl _)]; rfl
  · obtain ⟨K, hk⟩ := Ua.make_ a0 l (by omega) l.length 0 (by omega) (by omega)
    refine ⟨K, ?_⟩
    unfold beguinagelaw19_UsageAll.f
    rw [if_neg hn]
    exact hk K (Nat.le_refl _)
end Go.Proofs.Ytmjkkkllmpagpaa.Pure
