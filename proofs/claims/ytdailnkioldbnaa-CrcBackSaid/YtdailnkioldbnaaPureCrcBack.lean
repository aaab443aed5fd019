/- CrcBack: a number's bytes are read as the number again, at any number and any count; no condition. -/
import Derived.Test.YtdailnkioldbnaaUx7
import Derived.Test.YtdailnkioldbnaaUx19
import Derived.Test.YtdailnkioldbnaaPCrc
namespace Go.Proofs.Ytdailnkioldbnaa.Pure
open Go Go.RowKit Go.Proofs.Ytdailnkioldbnaa.U Go.Proofs.YtdailnkioldbnaaW.PrintWords Go.Proofs.YtdailnkioldbnaaW.PrintLast Go.Proofs.YtdailnkioldbnaaW.PrintMore
theorem back_l0 (a0 a1 want : Int) (h2 : ∀ x : Nat, x = clamp8 a1 → (x : Int) = mn a1 8) (hv : (num (bytesN a0 (clamp8 a1)) : Int) = want) : ∀ (d i k : Nat) (l : List Int), l.length = clamp8 a1 → i + d = l.length → d + 9 < k →
    undercroftlaw01_CrcBack.l0 k a0 a1 l (num (bytesN a0 (clamp8 a1)) : Int) true want (i : Int) = some true
  | 0, i, k, l, hl, hi, hk => by
    obtain ⟨k, rfl⟩ : ∃ m, k = m + 1 := ⟨k - 1, by omega⟩
    have h8 := clamp8_le a1
    rw [undercroftlaw01_CrcBack.l0, if_neg (by omega), bytes_f a0 a1 k (by omega), Option.bind_some, number_f _ (bytesN_u8 _ _) k (by omega), Option.bind_some, bytesN_length, if_pos h8, if_pos rfl, if_pos hv, if_pos rfl, if_pos hv, h2 _ hl]
    simp
  | d + 1, i, k, l, hl, hi, hk => by
    obtain ⟨k, rfl⟩ : ∃ m, k = m + 1 := ⟨k - 1, by omega⟩
    have h8 := clamp8_le a1
    have hw : wrap64 ((i : Int) + 1) = ((i + 1 : Nat) : Int) := by rw [wrap64_id (by omega) (by omega)]; omega
    rw [undercroftlaw01_CrcBack.l0, if_pos (by omega), if_pos (by omega), hw]
    exact back_l0 a0 a1 want h2 hv d (i + 1) k _ (by rw [List.length_set]; exact hl) (by rw [List.length_set]; omega) (by omega)
theorem back_j0 (a0 a1 want : Int) (h2 : ∀ x : Nat, x = clamp8 a1 → (x : Int) = mn a1 8) (hv : (num (bytesN a0 (clamp8 a1)) : Int) = want) :
    undercroftlaw01_CrcBack.j0 20 a0 a1 (bytesN a0 (clamp8 a1)) (num (bytesN a0 (clamp8 a1)) : Int) true want = some true := by
  have h8 := clamp8_le a1
  exact back_l0 a0 a1 want h2 hv (clamp8 a1) 0 19 _ (bytesN_length _ _) (by rw [bytesN_length]; omega) (by omega)
theorem mask_u64 (v n : Nat) (hv : v < 18446744073709551616) (hn : n < 8) : Go.bits .and .u64 (v : Int) (IntKind.u64.wrap (shl .u64 1 (wrap64 (8 * (n : Int))) - 1)) = ((v % 256 ^ n : Nat) : Int) := by
  have hw8 : wrap64 (8 * (n : Int)) = ((8 * n : Nat) : Int) := by rw [wrap64_id (by omega) (by omega)]; omega
  have hs : shl .u64 1 ((8 * n : Nat) : Int) = ((2 ^ (8 * n) : Nat) : Int) := by
    rcases (show n = 0 ∨ n = 1 ∨ n = 2 ∨ n = 3 ∨ n = 4 ∨ n = 5 ∨ n = 6 ∨ n = 7 by omega) with rfl | rfl | rfl | rfl | rfl | rfl | rfl | rfl <;> rfl
  have hp : (2 : Nat) ^ (8 * n) = 256 ^ n := by rw [Nat.pow_mul]
  have h1 : 1 ≤ 256 ^ n := Nat.one_le_pow _ _ (by decide)
  have h7 : (256 : Nat) ^ n ≤ 256 ^ 7 := Nat.pow_le_pow_right (by decide) (by omega)
  have hw : IntKind.u64.wrap (((2 ^ (8 * n) : Nat) : Int) - 1) = ((2 ^ (8 * n) - 1 : Nat) : Int) := by
    rw [u64_wrap, hp]
    generalize (256 : Nat) ^ n = q at *
    omega
  rw [hw8, hs, hw]
  show IntKind.u64.wrap ((BitVec.ofInt 64 (v : Int) &&& BitVec.ofInt 64 ((2 ^ (8 * n) - 1 : Nat) : Int)).toNat : Int) = _
  rw [u64_wrap, BitVec.ofInt_natCast, BitVec.ofInt_natCast, BitVec.toNat_and, BitVec.toNat_ofNat, BitVec.toNat_ofNat, Nat.mod_eq_of_lt (show v < 2 ^ 64 from hv), Nat.mod_eq_of_lt (show 2 ^ (8 * n) - 1 < 2 ^ 64 from by
    rw [hp]
    generalize (256 : Nat) ^ n = q at *
    omega), Nat.and_two_pow_sub_one_eq_mod, hp]
  have : v % 256 ^ n ≤ v := Nat.mod_le _ _
  generalize v % 256 ^ n = z at *
  omega
theorem CrcBack : undercroftlaw01_CrcBack.Pure := by
  intro a0 a1 hwf0 hwf1
  have h0 : 0 ≤ a0 ∧ a0 < 18446744073709551616 := by
    simp [Lit.wf, IntKind.max, IntKind.min, IntKind.bits, IntKind.signed] at hwf0
    omega
  refine ⟨20, ?_⟩
  have h8 := clamp8_le a1
  unfold undercroftlaw01_CrcBack.f
  rw [show undercroftlaw01_alive.f = some true from rfl, Option.bind_some, if_pos rfl, bytes_f a0 a1 20 (by omega), Option.bind_some, number_f _ (bytesN_u8 _ _) 20 (by omega), Option.bind_some, bytesN_length, if_pos h8]
  obtain ⟨v, rfl⟩ := Int.eq_ofNat_of_zero_le h0.1
  by_cases hneg : a1 < 0
  · rw [if_pos hneg]
    have : clamp8 a1 = 0 := by unfold clamp8 mx mn; split <;> split <;> omega
    rw [this]
    rfl
  · rw [if_neg hneg]
    have hc : ∀ x : Nat, x = clamp8 a1 → (x : Int) = mn a1 8 := by
      intro x hx
      subst hx
      unfold clamp8 mx
      split
      · unfold mn at *; split at * <;> omega
      · unfold mn at *; split at * <;> omega
    by_cases hlt : a1 < 8
    · obtain ⟨n, rfl⟩ := Int.eq_ofNat_of_zero_le (show 0 ≤ a1 by omega)
      have hcl : clamp8 (n : Int) = n := by
        have := hc _ rfl
        unfold mn at this
        split at this <;> omega
      rw [if_pos hlt, wrap64_id (by omega) (by omega), if_pos (by omega), ← wrap64_id (x := 8 * (n : Int)) (by omega) (by omega), mask_u64 v n (by omega) (by omega)]
      exact back_j0 _ _ _ hc (by rw [hcl, num_bytesN])
    · have hcl : clamp8 a1 = 8 := by
        have := hc _ rfl
        unfold mn at this
        split at this <;> omega
      rw [if_neg hlt]
      refine back_j0 _ _ _ hc ?_
      rw [hcl, num_bytesN, Nat.mod_eq_of_lt (show v < 256 ^ 8 from by have := h0.2; omega)]
end Go.Proofs.Ytdailnkioldbnaa.Pure
