/- CrcBursts: any change within 32 bits side by side changes the sum, at any bytes, any place and any burst; no condition. -/
import Derived.Test.YtdailnkioldbnaaUx7
import Derived.Test.YtdailnkioldbnaaUx18
import Derived.Test.YtdailnkioldbnaaPCrc
import Derived.Test.YtdailnkioldbnaaXCrc3
namespace Go.Proofs.Ytdailnkioldbnaa.Pure
open Go Go.RowKit Go.Proofs.Ytdailnkioldbnaa.U Go.Proofs.YtdailnkioldbnaaW.PrintWords Go.Proofs.YtdailnkioldbnaaW.PrintLast Go.Proofs.YtdailnkioldbnaaW.PrintMore
theorem bursts_l0 (b : List Int) (hb : X.u8all b = true) (hm : b.length ≤ 140737488351232) (burst first : Nat) (hu : burst < 4294967296) (hf : first < 8 * b.length) : ∀ (d j k : Nat), j + d = 32 → d < k →
    undercroftlaw01_CrcBursts.l0 k b (burst : Int) (first : Int) (X.flipTo (8 * b.length) first burst b j) (X.flipped (8 * b.length) first burst j) (j : Int) = some true
  | 0, j, k, hj, hk => by
    obtain ⟨k, rfl⟩ : ∃ m, k = m + 1 := ⟨k - 1, by omega⟩
    obtain rfl : j = 32 := by omega
    obtain ⟨h1, h2, -⟩ := X.flipTo_tells (8 * b.length) first burst b rfl hb 32
    rw [undercroftlaw01_CrcBursts.l0, if_neg (by omega)]
    by_cases ht : X.flipped (8 * b.length) first burst 32 = true
    · have hne := X.sum_flip first burst b hb (by omega) 0 ht
      rw [if_pos ht, sum_f h2, Option.bind_some, sum_f hb, Option.bind_some, bne_iff_ne.2 hne]
    · rw [if_neg ht]
  | d + 1, j, k, hj, hk => by
    obtain ⟨k, rfl⟩ : ∃ m, k = m + 1 := ⟨k - 1, by omega⟩
    have ih := bursts_l0 b hb hm burst first hu hf d (j + 1) k (by omega) (by omega)
    obtain ⟨h1, h2, -⟩ := X.flipTo_tells (8 * b.length) first burst b rfl hb j
    have hw : wrap64 ((j : Int) + 1) = ((j + 1 : Nat) : Int) := by rw [wrap64_id (by omega) (by omega)]; omega
    have hp : wrap64 ((first : Int) + (j : Int)) = ((first + j : Nat) : Int) := by rw [wrap64_id (by omega) (by omega)]; omega
    have hn : wrap64 (8 * (b.length : Int)) = ((8 * b.length : Nat) : Int) := by rw [wrap64_id (by omega) (by omega)]; omega
    have hd : wrap64 (Int.tdiv ((first + j : Nat) : Int) 8) = (((first + j) / 8 : Nat) : Int) := by
      have : Int.tdiv ((first + j : Nat) : Int) 8 = (((first + j) / 8 : Nat) : Int) := rfl
      rw [this, wrap64_id (by omega) (by omega)]
    have hr : Int.tmod ((first + j : Nat) : Int) 8 = (((first + j) % 8 : Nat) : Int) := rfl
    rw [undercroftlaw01_CrcBursts.l0, if_pos (by omega), if_pos (by omega), X.hit_test burst j (by omega) hu, hw, hp, hn, hd, hr]
    simp only [X.flipTo, X.flipped] at ih
    by_cases hbit : burst.testBit j = true
    · rw [if_pos hbit, if_pos rfl]
      by_cases hlt : first + j < 8 * b.length
      · have hh : X.hit (8 * b.length) first burst j = true := by simp [X.hit, hbit, hlt]
        rw [if_pos hh, hh, Bool.true_or] at ih
        rw [if_pos (by omega), if_pos (by omega), if_pos (by omega), if_pos (by omega), X.turn_bit _ h2 (first + j) (by omega), Int.toNat_natCast]
        exact ih
      · have hh : X.hit (8 * b.length) first burst j = false := by simp [X.hit, hlt]
        rw [if_neg (by rw [hh]; decide), hh, Bool.false_or] at ih
        rw [if_neg (by omega)]
        exact ih
    · have hh : X.hit (8 * b.length) first burst j = false := by simp [X.hit, hbit]
      rw [if_neg (by rw [hh]; decide), hh, Bool.false_or] at ih
      rw [if_neg hbit, if_neg (by decide)]
      exact ih
theorem CrcBursts : undercroftlaw01_CrcBursts.Pure := by
  intro l0 a1 a2 hmax hsz hwf hwf1 hwf2
  have hu := X.u8all_wf hwf
  have h2 : 0 ≤ a2 ∧ a2 < 4294967296 := by
    simp [Lit.wf, IntKind.max, IntKind.min, IntKind.bits, IntKind.signed] at hwf2
    omega
  obtain ⟨burst, rfl⟩ := Int.eq_ofNat_of_zero_le h2.1
  refine ⟨40, ?_⟩
  unfold undercroftlaw01_CrcBursts.f
  rw [show undercroftlaw01_alive.f = some true from rfl, Option.bind_some, if_pos rfl]
  by_cases h0 : l0.length = 0
  · rw [if_pos (by omega), undercroftlaw01_CrcBursts.j0, if_pos rfl]
  · rw [if_neg (by omega), undercroftlaw01_CrcBursts.j0]
    by_cases hz : ((burst : Int) == 0) = true
    · rw [if_pos hz]
    · have hn : wrap64 (8 * (l0.length : Int)) = ((8 * l0.length : Nat) : Int) := by rw [wrap64_id (by omega) (by omega)]; omega
      rw [if_neg hz, hn, u64_wrap, u64_wrap, if_neg (by omega), Option.bind_some, if_pos (by simp; omega), List.nil_append]
      obtain ⟨first, hk⟩ : ∃ k : Nat, wrap64 (Int.tmod (a1 % 18446744073709551616) (((8 * l0.length : Nat) : Int) % 18446744073709551616)) = (k : Int) ∧ k < 8 * l0.length := by
        have e1 : ((8 * l0.length : Nat) : Int) % 18446744073709551616 = ((8 * l0.length : Nat) : Int) := by omega
        have e2 : Int.tmod (a1 % 18446744073709551616) ((8 * l0.length : Nat) : Int) = (a1 % 18446744073709551616) % ((8 * l0.length : Nat) : Int) := Int.tmod_eq_emod_of_nonneg (by omega)
        have e3 := Int.emod_nonneg (a1 % 18446744073709551616) (show ((8 * l0.length : Nat) : Int) ≠ 0 by omega)
        have e4 := Int.emod_lt_of_pos (a1 % 18446744073709551616) (show (0 : Int) < ((8 * l0.length : Nat) : Int) by omega)
        refine ⟨((a1 % 18446744073709551616) % ((8 * l0.length : Nat) : Int)).toNat, ?_, by omega⟩
        rw [e1, e2, wrap64_id (by omega) (by omega)]
        omega
      rw [hk.1]
      exact bursts_l0 l0 hu (by omega) burst first (by omega) hk.2 32 0 39 (by omega) (by omega)
end Go.Proofs.Ytdailnkioldbnaa.Pure
