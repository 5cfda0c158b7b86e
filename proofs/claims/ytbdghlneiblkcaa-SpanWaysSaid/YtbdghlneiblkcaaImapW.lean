/- imap: the laws' example (awake) answers true, and what lay in memory before stays as it was; Place. Conditions: none. -/
import Derived.Test.YtbdghlneiblkcaaImapA
import Derived.Test.YtbdghlneiblkcaaPSpanx4
namespace Go.Proofs.Ytbdghlneiblkcaa.Imap
open Go.RowKit Go.Proofs.YtbdghlneiblkcaaW.PrintWords Go.Proofs.YtbdghlneiblkcaaW.PrintLast Go.Proofs.YtbdghlneiblkcaaW.PrintMore
open Go.Proofs.Ytbdghlneiblkcaa.Aid
set_option linter.unusedVariables false
set_option linter.unusedSimpArgs false

theorem grown_drewN (w : World) (n : Nat) : w.grownBy (w.drewN n) none := ⟨rfl, rfl, rfl, Nat.le_refl _, fun _ _ _ => rfl⟩
theorem place_calls (a n : Int) (w : World) (h0 : 0 < n) (h1 : n ≤ 9223372036854775807) :
    Calls Try.prog 13 #[.int .i64 a, .int .i64 n] w fun e w' => e = .returned (.int .i64 (a % n)) ∧ w.grownBy w' none :=
  (PSpan.beguinagelaw00_Place.calls a n (a % n) w (by unfold PSpan.beguinagelaw00_Place.f; exact place a h0 h1)).mono fun e w' ⟨he, nd, hd⟩ => ⟨he, by first | (rw [hd]; exact grown_drewN w nd) | (rw [← hd]; exact grown_drewN w nd)⟩

def L1 : List Int := Z256.set 1 50
theorem first0 : FirstIs Z256 1 := Or.inl ⟨by omega, by omega, Z256_at 1, fun j h1 h2 => by omega⟩
theorem first1 : FirstIs L1 2 := Or.inl ⟨by omega, by omega, by decide +kernel, fun j h1 h2 => by
  have : j = 1 := by omega
  subst this; decide +kernel⟩
theorem get1 : L1.getD 1 0 = 50 := by decide +kernel
theorem nodes1 : nodesTo L1 256 = [1] := by decide +kernel

set_option maxHeartbeats 1000000 in
theorem awake_calls (w : World) : Calls Try.prog 12 #[] w fun e w' => e = .returned (.bool true) ∧ Below w.heap.size w w' := by
  have G1 := Aside0.mk get1
  have N1 := Aside0.mk nodes1
  go_enter Try.func12, Try.ntmps12
  go_wp2_with fail
  refine (new_calls _).mono ?_
  rintro e w1 ⟨rfl, hM, hb, hz⟩
  have HM := Aside0.mk hM
  clear hM hz
  go_wp2_with fail
  refine (first_calls _ _ 1 _ HM.out first0).mono ?_
  rintro e w2 ⟨rfl, rfl⟩
  go_wp2_with fail
  refine (set_in _ _ 1 50 _ HM.out (by decide) (by decide) (by decide) (by decide)).mono ?_
  rintro e w2 ⟨rfl, hM, hg⟩
  have hb2 := below_grown hb hg (Nat.le_refl _) hb.size
  replace HM : Aside0 (Mp w2 w.heap.size L1) := Aside0.mk hM
  clear hM hg hb
  go_wp2_with fail
  refine (get_in _ _ 1 _ HM.out (by decide) (by decide)).mono ?_
  rintro e w3 ⟨rfl, rfl⟩
  rw [G1.out]
  go_wp2_with fail
  refine (first_calls _ _ 2 _ HM.out first1).mono ?_
  rintro e w3 ⟨rfl, rfl⟩
  go_wp2_with fail
  refine (nodes_calls _ _ _ HM.out).mono ?_
  rintro e w3 ⟨v, rfl, HO, hb3⟩
  rw [N1.out] at HO
  obtain ⟨Ao, co, rfl⟩ := Kd.R_slice HO
  have hb4 := below_step hb2 hb3
  clear HO hb3 hb2
  simp only [List.length_cons, List.length_nil]
  go_wp2_with fail
  go_ret
  exact ⟨rfl, hb4⟩
end Go.Proofs.Ytbdghlneiblkcaa.Imap
