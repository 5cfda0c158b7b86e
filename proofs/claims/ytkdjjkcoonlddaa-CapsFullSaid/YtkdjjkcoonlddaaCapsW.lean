/- caps: Place; the laws' example (awake) answers true. -/
import Derived.Test.YtkdjjkcoonlddaaCapsC
import Derived.Test.YtkdjjkcoonlddaaPPoolx4
namespace Go.Proofs.Ytkdjjkcoonlddaa.Caps
open Go.RowKit Go.Maps Go.Proofs.YtkdjjkcoonlddaaW.PrintWords Go.Proofs.YtkdjjkcoonlddaaW.PrintLast Go.Proofs.YtkdjjkcoonlddaaW.PrintMore
open Go.Proofs.Ytkdjjkcoonlddaa.Aid
set_option linter.unusedVariables false
set_option linter.unusedSimpArgs false

theorem grown_drewN (w : World) (n : Nat) : w.grownBy (w.drewN n) none := ⟨rfl, rfl, rfl, Nat.le_refl _, fun _ _ _ => rfl⟩
theorem place_calls (a n : Int) (w : World) (h0 : 0 < n) (h1 : n ≤ 9223372036854775807) :
    Calls Try.prog 17 #[.int .i64 a, .int .i64 n] w fun e w' => e = .returned (.int .i64 (a % n)) ∧ Below w.heap.size w w' :=
  (PPool.beguinagelaw00_Place.calls a n (a % n) w (by unfold PPool.beguinagelaw00_Place.f; exact place a h0 h1)).mono fun e w' ⟨he, nd, hd⟩ => ⟨he, by first | (rw [hd]; exact pw_below_drewN (Below.refl _ _) nd) | (rw [← hd]; exact pw_below_drewN (Below.refl _ _) nd)⟩

theorem front1 : frontF 1 1 1 = 4503668346912768 := by decide
theorem look1 : lookH [((4503668346912769 : Int), (1 : Int), (7 : Int))] 4503668346912769 = some (4503668346912769, 1, 7) := by decide
theorem without1 : without [((4503668346912769 : Int), (1 : Int), (7 : Int))] 4503668346912769 = [] := by decide
set_option maxHeartbeats 2000000 in
theorem awake_calls (w : World) : Calls Try.prog 29 #[] w fun e w' => e = .returned (.bool true) ∧ Below w.heap.size w w' := by
  have F1 := Aside0.mk front1
  have LK := Aside0.mk look1
  have WO := Aside0.mk without1
  have HF : Aside0 ((4503668346912768 : Int) + (0 + 1) = 4503668346912769) := ⟨by decide⟩
  have HH : Aside0 (houseF 4503668346912769 = 1) := ⟨by decide⟩
  go_enter Try.func29, Try.ntmps29
  go_wp2_with fail
  refine (new_calls 1 1 1 _ (by decide) (by decide) (by decide) (by decide) (by decide) (by decide)).mono ?_
  rintro e w1 ⟨rfl, hT, hb⟩
  rw [F1.out] at hT
  have HT := Aside0.mk hT
  clear hT
  obtain ⟨g, hg⟩ : ∃ g, w.heap.size + 1 = g := ⟨_, rfl⟩
  obtain ⟨b, hbb⟩ : ∃ b, w.heap.size = b := ⟨_, rfl⟩
  have hgl : w.heap.size ≤ g := by omega
  have hbl : w.heap.size ≤ b := by omega
  rw [hg, hbb] at HT
  rw [hg]
  clear hg hbb
  go_wp2_with fail
  refine (open_yes g b 4503668346912768 0 [] 1 7 _ HT.out (by decide) (by decide) (by decide) (by decide) (by decide) (by decide) (by decide) (by decide) (by decide) rfl).mono ?_
  rintro e w2 ⟨rfl, hT, hf⟩
  have hb2 := hf.below hb hgl hbl hb.size
  rw [HF.out] at hT ⊢
  have HT2 := Aside0.mk hT
  clear hT hf HT hb
  go_wp2_with fail
  refine (get_calls g b _ _ _ 4503668346912769 _ HT2.out (by decide)).mono ?_
  rintro e w3 ⟨rfl, hb3⟩
  have HT3 := Aside0.mk (HT2.out.below hb3)
  have HB3 := below_step hb2 hb3
  rw [show lookH ([] ++ [((4503668346912769 : Int), (1 : Int), (7 : Int))]) 4503668346912769 = some (4503668346912769, 1, 7) from LK.out]
  dsimp only
  clear hb2 hb3 HT2
  go_wp2_with fail
  refine (house_calls 4503668346912769 _ (by decide)).mono ?_
  rintro e w4 ⟨rfl, rfl⟩
  rw [HH.out]
  go_wp2_with fail
  refine (close_yes g b _ _ _ 4503668346912769 _ HT3.out (by decide) (by decide)).mono ?_
  rintro e w4 ⟨rfl, hT, hf⟩
  have HB4 := hf.below HB3 hgl hbl HB3.size
  rw [show without ([] ++ [((4503668346912769 : Int), (1 : Int), (7 : Int))]) 4503668346912769 = [] from WO.out] at hT
  have HT4 := Aside0.mk hT
  clear hT hf HB3 HT3
  go_wp2_with fail
  refine (close_no g b _ _ [] 4503668346912769 _ HT4.out (by decide) rfl).mono ?_
  rintro e w5 ⟨rfl, hb5⟩
  have HB5 := below_step HB4 hb5
  go_wp2_with fail
  go_ret
  exact ⟨rfl, HB5⟩
end Go.Proofs.Ytkdjjkcoonlddaa.Caps
