/- The contract of bin.Get: at any text, place and number of bytes it answers what bin_Get.f says, and what lay in memory before stays as it was. Conditions: the text has at most 2^62 bytes (else bin_Get.f says nothing). -/
import Derived.Test.YtbdghlneiblkcaaPSpanx0
import Derived.Test.YtbdghlneiblkcaaPSpanx8
import Derived.Test.YtbdghlneiblkcaaAid
import Derived.Laws.BitsAllLaws
import Derived.Laws.BitsLemmas
import Derived.WalkSpells
import Derived.Lib.ConvBytes
namespace Go.Proofs.Ytbdghlneiblkcaa.PSpan
open Go.RowKit Go.Proofs.YtbdghlneiblkcaaW.PrintWords Go.Proofs.YtbdghlneiblkcaaW.PrintLast Go.Proofs.YtbdghlneiblkcaaW.PrintMore Go.Proofs.Ytbdghlneiblkcaa.Aid
set_option linter.unusedVariables false
set_option linter.unusedSimpArgs false

def numF : List Int → Int
  | [] => 0
  | b :: t => b + 256 * numF t
def Byt (l : List Int) : Prop := ∀ b, b ∈ l → 0 ≤ b ∧ b ≤ 255
theorem numF_bd : ∀ l : List Int, Byt l → 0 ≤ numF l ∧ numF l < 256 ^ l.length := by
  intro l
  induction l with
  | nil => exact fun _ => ⟨by simp [numF], by simp [numF]⟩
  | cons b t ih =>
    intro h
    have h1 := h b (List.mem_cons_self)
    obtain ⟨h2, h3⟩ := ih fun x hx => h x (List.mem_cons_of_mem _ hx)
    have e : (256 : Int) ^ (b :: t).length = 256 * 256 ^ t.length := by rw [List.length_cons, Int.pow_succ, Int.mul_comm]
    rw [e]
    simp only [numF]
    omega
theorem pow_le {n : Nat} (h : n ≤ 6) : (256 : Int) ^ n ≤ 281474976710656 := by
  have : n = 0 ∨ n = 1 ∨ n = 2 ∨ n = 3 ∨ n = 4 ∨ n = 5 ∨ n = 6 := by omega
  rcases this with rfl | rfl | rfl | rfl | rfl | rfl | rfl <;> decide
theorem byt_bytesOf (s : ByteArray) : Byt (bytesOf s) := by
  intro b hb
  obtain ⟨u, _, rfl⟩ := List.mem_map.1 hb
  have := u.toNat_lt
  exact ⟨by omega, by omega⟩

theorem ofInt64 (a : Nat) (ha : a < 9223372036854775808) : (BitVec.ofInt 64 (a : Int)).toNat = a := by
  rw [BitVec.ofInt_natCast, BitVec.toNat_ofNat]; exact Nat.mod_eq_of_lt (by omega)
theorem or_byte {x b : Int} (h0 : 0 ≤ x) (h1 : x < 281474976710656) (h2 : 0 ≤ b) (h3 : b ≤ 255) : Go.bits .or .i64 (x * 256) b = b + 256 * x := by
  obtain ⟨m, rfl⟩ := Int.eq_ofNat_of_zero_le h0
  obtain ⟨c, rfl⟩ := Int.eq_ofNat_of_zero_le h2
  have e : ((m : Int) * 256) = ((m * 256 : Nat) : Int) := by omega
  rw [e]
  show IntKind.i64.wrap ((BitVec.ofInt 64 ((m * 256 : Nat) : Int) ||| BitVec.ofInt 64 (c : Int)).toNat : Int) = _
  rw [BitVec.toNat_or, ofInt64 _ (by omega), ofInt64 _ (by omega), IntKind.wrap_i64]
  have h4 : m * 256 ||| c = m * 256 + c := by
    have := Nat.shiftLeft_add_eq_or_of_lt (a := m) (b := c) (i := 8) (by omega)
    rw [Nat.shiftLeft_eq] at this
    exact this.symm
  rw [h4]
  omega

theorem number_loop (l : List Int) (hb : Byt l) (hl : l.length ≤ 7) (d : Nat) : d ≤ l.length → ∀ k, d < k → bin_number_int.l0 k l (numF (l.drop d)) ((d : Int) - 1) = some (numF l) := by
  induction d with
  | zero =>
    intro _ k hk
    obtain ⟨k, rfl⟩ : ∃ m, k = m + 1 := ⟨k - 1, by omega⟩
    rw [bin_number_int.l0, if_neg (by omega)]
    rfl
  | succ d ih =>
    intro hd k hk
    obtain ⟨k, rfl⟩ : ∃ m, k = m + 1 := ⟨k - 1, by omega⟩
    have hlt : d < l.length := by omega
    have hdrop : l.drop d = l[d] :: l.drop (d + 1) := List.drop_eq_getElem_cons hlt
    have hx := hb l[d] (List.getElem_mem hlt)
    have hrd : rd l ((d + 1 : Nat) - 1 : Int) = l[d] := by
      unfold rd
      rw [show ((d + 1 : Nat) - 1 : Int).toNat = d from by omega, List.getD_eq_getElem?_getD, List.getElem?_eq_getElem hlt]
      rfl
    have hbd := numF_bd (l.drop (d + 1)) (fun b h => hb b (List.mem_of_mem_drop h))
    have hp := pow_le (n := (l.drop (d + 1)).length) (by rw [List.length_drop]; omega)
    have e : Go.bits .or .i64 (wrap64 (numF (l.drop (d + 1)) * 256)) (wrap64 (rd l ((d + 1 : Nat) - 1 : Int))) = numF (l.drop d) := by
      rw [hrd, w64 (x := numF (l.drop (d + 1)) * 256) (by omega) (by omega), w64 (x := l[d]) (by omega) (by omega), or_byte hbd.1 (by omega) hx.1 hx.2, hdrop]
      rfl
    rw [bin_number_int.l0, if_pos (by omega), if_pos (by omega), if_pos (by omega), e, w64 (by omega) (by omega), show ((d + 1 : Nat) : Int) - 1 - 1 = (d : Int) - 1 from by omega]
    exact ih (by omega) k (by omega)
theorem number_eq (l : List Int) (hb : Byt l) (hl : l.length ≤ 7) : bin_number_int.f (l.length + 1) l = some (numF l) := by
  unfold bin_number_int.f
  rw [w64 (by omega) (by omega)]
  have := number_loop l hb hl l.length (Nat.le_refl _) (l.length + 1) (by omega)
  rwa [List.drop_length] at this

def bin_Get.f (a0 : ByteArray) (a1 : Int) (a2 : Int) : Option (Int × Bool) :=
  if (a0.size : Int) ≤ 4611686018427387904 then
    some (if a2 < 0 ∨ a2 > 7 ∨ a1 < 0 ∨ a1 > (a0.size : Int) - a2 then (0, false) else (numF (bytesOf (a0.extract a1.toNat (a1 + a2).toNat)), true))
  else none

set_option maxHeartbeats 1000000 in
theorem get_no (a0 : ByteArray) (a1 a2 : Int) (w : World) (hs : (a0.size : Int) ≤ 4611686018427387904) (h : a2 < 0 ∨ a2 > 7 ∨ a1 < 0 ∨ a1 > (a0.size : Int) - a2) :
    Calls Try.prog 40 #[.string a0, .int .i64 a1, .int .i64 a2] w fun e w' => e = .returned (.tuple #[.int .i64 0, .bool false]) ∧ w = w' := by
  by_cases c1 : a2 < 0
  · clear h
    go_enter Try.func40, Try.ntmps40
    go_wp2
    go_ret2
    exact ⟨rfl, rfl⟩
  · by_cases c2 : 7 < a2
    · clear h
      go_enter Try.func40, Try.ntmps40
      go_wp2
      go_ret2
      exact ⟨rfl, rfl⟩
    · by_cases c3 : a1 < 0
      · clear h
        go_enter Try.func40, Try.ntmps40
        go_wp2
        go_ret2
        exact ⟨rfl, rfl⟩
      · have c4 : (a0.size : Int) - a2 < a1 := by omega
        have c0 : 0 ≤ a2 := by omega
        have c5 : a2 ≤ 7 := by omega
        clear h c1
        go_enter Try.func40, Try.ntmps40
        go_wp2
        go_ret2
        exact ⟨rfl, rfl⟩

theorem below_bytesWorld (w : World) (e : TypeId) (s : ByteArray) : Below w.heap.size w (Lib.bytesWorld w e s) :=
  ⟨rfl, rfl, rfl, by rw [Lib.bytesWorld_size]; omega, fun i hi => Lib.bytesWorld_at_old w e s i hi⟩
theorem reads_bytesWorld (w : World) (e : TypeId) (s : ByteArray) (hs : s.size ≤ 9223372036854775807) : Kd.C (Kd.int .u8) (Lib.bytesWorld w e s) (some ⟨w.heap.size, 0, none⟩) (bytesOf s).length (bytesOf s) := by
  refine ⟨rfl, by rw [bytesOf_length]; exact hs, fun _ => ⟨_, rfl, fun j p hp => ⟨[.int .u8 p], rfl, rfl, fun i u hu => ?_⟩⟩⟩
  have hi : i = 0 := by
    have := (List.getElem?_eq_some_iff.1 hu).1
    simp at this; omega
  subst hi
  have hj : j < s.size := by rw [← bytesOf_length]; exact (List.getElem?_eq_some_iff.1 hp).1
  have hc := Lib.bytesWorld_cell w e s j hj
  have ha : (⟨w.heap.size, 0, none⟩ : Addr).add (j * 1 + 0) = ⟨w.heap.size, j, none⟩ := by rw [add_plain, Nat.mul_one, Nat.add_zero]
  show (Lib.bytesWorld w e s).cell? ((⟨w.heap.size, 0, none⟩ : Addr).add (j * 1 + 0)) = some u
  rw [ha, hc]
  have hu' : Value.int .u8 p = u := by simpa using hu
  rw [← hu']
  have hp' : (bytesOf s)[j]? = some ((s.data.toList.getD j 0).toNat : Int) := by
    have hj' : j < s.data.toList.length := by simpa using hj
    unfold bytesOf
    rw [List.getElem?_map, List.getElem?_eq_getElem hj', List.getD_eq_getElem?_getD, List.getElem?_eq_getElem hj']
    rfl
  rw [hp'] at hp
  rw [Option.some.inj hp]

set_option maxHeartbeats 1000000 in
theorem get_yes (a0 : ByteArray) (i m : Nat) (w : World) (hs : (a0.size : Int) ≤ 4611686018427387904) (hm : m ≤ 7) (hi : i + m ≤ a0.size) :
    Calls Try.prog 40 #[.string a0, .int .i64 i, .int .i64 m] w fun e w' => e = .returned (.tuple #[.int .i64 (numF (bytesOf (a0.extract i (i + m)))), .bool true]) ∧ Below w.heap.size w w' := by
  obtain ⟨S, hS⟩ : ∃ S, a0.extract i (i + m) = S := ⟨_, rfl⟩
  have hSl : (bytesOf S).length = m := by rw [bytesOf_length, ← hS, ByteArray.size_extract]; omega
  have hcv : ∀ W : World, (convert 9 48 (.string S)).run Try.prog W = .ok (.slice (some ⟨W.heap.size, 0, none⟩) (bytesOf S).length (grownCap W S.size 0 5)) (Lib.bytesWorld W 5 S) := fun W => by
    rw [Lib.run_convert_string_bytes (P := Try.prog) W 9 48 5 S Try.underlying9 Try.underlying48 Try.underlying5, bytesOf_length]
  have hsl : ∀ W : World, (Instr.slice 9 (.string a0) (some (.int .i64 (i : Int))) (some (.int .i64 ((i : Int) + (m : Int)))) none).run Try.prog W = .ok (.string S) W := fun W => by
    rw [run_slice_string_if (P := Try.prog) (w := W) 9 a0 .i64 .i64 (i : Int) ((i : Int) + (m : Int)) Try.underlying9, if_pos ⟨by omega, by omega⟩, if_pos ⟨by omega, by omega⟩, ← hS]
    rfl
  have hnum := number_eq (bytesOf S) (byt_bytesOf S) (by omega)
  obtain ⟨r, hr⟩ : ∃ r, numF (bytesOf S) = r := ⟨_, rfl⟩
  rw [hS, hr]
  rw [hr] at hnum
  have Hnum := Aside0.mk hnum
  have HL := Aside0.mk hSl
  have HS : Aside0 (S.size ≤ 9223372036854775807) := ⟨by rw [← bytesOf_length]; omega⟩
  have HC : ∀ W : World, Aside0 ((bytesOf S).length ≤ grownCap W S.size 0 5) := fun W => ⟨by rw [bytesOf_length]; exact grownCap_ge _ _ _ _⟩
  have HC := Aside0.mk HC
  clear hnum hSl hr hS
  have b1 : (0 : Int) ≤ (m : Int) := by omega
  have b2 : (m : Int) ≤ 7 := by omega
  have b3 : (0 : Int) ≤ (i : Int) := by omega
  have b4 : (i : Int) + (m : Int) ≤ (a0.size : Int) := by omega
  go_enter Try.func40, Try.ntmps40
  go_wp2_with (go_at_call 45; (with_reducible refine (bin_number_int.calls ((bytesOf S).length + 1) (some ⟨w.heap.size, 0, none⟩) _ (bytesOf S) r _ (reads_bytesWorld w 5 S HS.out) (HC.out _).out Hnum.out).mono ?_); rintro e w' ⟨rfl, ⟨nd, rfl⟩⟩)
  go_ret2
  exact ⟨rfl, pw_below_drewN (below_bytesWorld w 5 S) nd⟩

theorem bin_Get.calls (a0 : ByteArray) (a1 : Int) (a2 : Int) (r1 : Int) (r2 : Bool) (w : World) (h : bin_Get.f a0 a1 a2 = some (r1, r2)) :
    Calls Try.prog 40 #[.string a0, .int .i64 a1, .int .i64 a2] w fun e w' => e = .returned (.tuple #[.int .i64 r1, .bool r2]) ∧ Below w.heap.size w w' := by
  unfold bin_Get.f at h
  by_cases hs : (a0.size : Int) ≤ 4611686018427387904
  · rw [if_pos hs] at h
    by_cases hn : a2 < 0 ∨ a2 > 7 ∨ a1 < 0 ∨ a1 > (a0.size : Int) - a2
    · rw [if_pos hn] at h
      simp only [Option.some.injEq, Prod.mk.injEq] at h
      obtain ⟨rfl, rfl⟩ := h
      exact (get_no a0 a1 a2 w hs hn).mono fun e w' ⟨he, hw⟩ => ⟨he, by subst hw; exact Below.refl _ _⟩
    · rw [if_neg hn] at h
      simp only [Option.some.injEq, Prod.mk.injEq] at h
      obtain ⟨rfl, rfl⟩ := h
      obtain ⟨i, rfl⟩ := Int.eq_ofNat_of_zero_le (show 0 ≤ a1 by omega)
      obtain ⟨m, rfl⟩ := Int.eq_ofNat_of_zero_le (show 0 ≤ a2 by omega)
      have e1 : ((i : Int) + (m : Int)).toNat = i + m := by omega
      rw [e1, Int.toNat_natCast]
      exact get_yes a0 i m w hs (by omega) (by omega)
  · rw [if_neg hs] at h; cases h
end Go.Proofs.Ytbdghlneiblkcaa.PSpan
