/- GeomBack: a superblock is read again, and one with bits turned within 32 side by side is not, at any number of blocks, any place and any burst; no condition. -/
import Derived.Test.YtiaefbngegmpaaaUx17
import Derived.Test.YtiaefbngegmpaaaPGeom2
namespace Go.Proofs.Ytiaefbngegmpaaa.Pure
open Go Go.RowKit Go.Proofs.Ytiaefbngegmpaaa.U Go.Proofs.YtiaefbngegmpaaaW.PrintWords Go.Proofs.YtiaefbngegmpaaaW.PrintLast Go.Proofs.YtiaefbngegmpaaaW.PrintMore
theorem back_l0 (B : Int) (hg : Good B) (burst first : Nat) (hu : burst < 4294967296) (hf : first < 2048) : ∀ (d j k : Nat), j + d = 32 → d + 400 < k →
    undercroftlaw06_GeomBack.l0 k (burst : Int) (X.flipTo 2048 first burst (sb B) j) (first : Int) (X.flipped 2048 first burst j) (j : Int) B (B / 4) 1 2 3 (lgOf B) (llOf B) (dtOf B) = some true
  | 0, j, k, hj, hk => by
    obtain ⟨k, rfl⟩ : ∃ m, k = m + 1 := ⟨k - 1, by omega⟩
    obtain rfl : j = 32 := by omega
    obtain ⟨h1, h2, -⟩ := X.flipTo_tells 2048 first burst (sb B) (by rw [sb_length]) (sb_u8 B) 32
    rw [undercroftlaw06_GeomBack.l0, if_neg (by omega), decode_f _ h2 k (by omega), Option.bind_some, encode_good hg, Option.bind_some, refEncode_good hg k (by omega), Option.bind_some]
    by_cases ht : X.flipped 2048 first burst 32 = true
    · rw [decode_turned first burst (by omega) ht, ht, if_pos rfl]
      simp
    · have ht' := Bool.eq_false_iff.2 ht
      rw [flipTo_same _ _ _ _ _ ht', decode_sb hg, ht', if_pos rfl]
      simp
  | d + 1, j, k, hj, hk => by
    obtain ⟨k, rfl⟩ : ∃ m, k = m + 1 := ⟨k - 1, by omega⟩
    have ih := back_l0 B hg burst first hu hf d (j + 1) k (by omega) (by omega)
    obtain ⟨h1, h2, -⟩ := X.flipTo_tells 2048 first burst (sb B) (by rw [sb_length]) (sb_u8 B) j
    rw [sb_length] at h1
    have hw : wrap64 ((j : Int) + 1) = ((j + 1 : Nat) : Int) := by rw [wrap64_id (by omega) (by omega)]; omega
    have hp : wrap64 ((first : Int) + (j : Int)) = ((first + j : Nat) : Int) := by rw [wrap64_id (by omega) (by omega)]; omega
    have hd : wrap64 (Int.tdiv ((first + j : Nat) : Int) 8) = (((first + j) / 8 : Nat) : Int) := by
      have : Int.tdiv ((first + j : Nat) : Int) 8 = (((first + j) / 8 : Nat) : Int) := rfl
      rw [this, wrap64_id (by omega) (by omega)]
    have hr : Int.tmod ((first + j : Nat) : Int) 8 = (((first + j) % 8 : Nat) : Int) := rfl
    rw [undercroftlaw06_GeomBack.l0, if_pos (by omega), if_pos (by omega), X.hit_test burst j (by omega) hu, hw, hp, hd, hr]
    simp only [X.flipTo, X.flipped] at ih
    by_cases hbit : burst.testBit j = true
    · rw [if_pos hbit, if_pos rfl]
      by_cases hlt : first + j < 2048
      · have hh : X.hit 2048 first burst j = true := by simp [X.hit, hbit, hlt]
        rw [if_pos hh, hh, Bool.true_or] at ih
        rw [if_pos (by omega), if_pos (by omega), if_pos (by omega), if_pos (by omega), X.turn_bit _ h2 (first + j) (by omega), Int.toNat_natCast]
        exact ih
      · have hh : X.hit 2048 first burst j = false := by simp [X.hit, hlt]
        rw [if_neg (by rw [hh]; decide), hh, Bool.false_or] at ih
        rw [if_neg (by omega)]
        exact ih
    · have hh : X.hit 2048 first burst j = false := by simp [X.hit, hbit]
      rw [if_neg (by rw [hh]; decide), hh, Bool.false_or] at ih
      rw [if_neg hbit, if_neg (by decide)]
      exact ih
theorem GeomBack : undercroftlaw06_GeomBack.Pure := by
  intro a0 a1 a2 _ _ hwf2
  have h2 : 0 ≤ a2 ∧ a2 < 4294967296 := by
    simp [Lit.wf, IntKind.max, IntKind.min, IntKind.bits, IntKind.signed] at hwf2
    omega
  obtain ⟨burst, rfl⟩ := Int.eq_ofNat_of_zero_le h2.1
  refine ⟨500, ?_⟩
  unfold undercroftlaw06_GeomBack.f
  rw [alive_true, Option.bind_some, if_pos rfl]
  by_cases hg : Good a0
  · rw [layout_good hg, Option.bind_some]
    dsimp only
    rw [encode_good hg, Option.bind_some, if_pos rfl]
    dsimp only
    rw [decode_f _ (sb_u8 a0) 500 (by omega), Option.bind_some, decode_sb hg, if_pos rfl, if_pos rfl]
    dsimp only
    rw [if_neg (by simp), sb_length]
    have e2 : Int.tmod (IntKind.u64.wrap a1) 2048 = (IntKind.u64.wrap a1) % 2048 := Int.tmod_eq_emod_of_nonneg (by rw [u64_wrap]; omega)
    obtain ⟨first, hk⟩ : ∃ k : Nat, wrap64 (Int.tmod (IntKind.u64.wrap a1) 2048) = (k : Int) ∧ k < 2048 := by
      refine ⟨((IntKind.u64.wrap a1) % 2048).toNat, ?_, by omega⟩
      rw [e2, wrap64_id (by omega) (by omega)]
      omega
    rw [show (500 : Nat) = 499 + 1 from rfl, undercroftlaw06_GeomBack.j0, if_neg (by decide), hk.1]
    exact back_l0 a0 hg burst first (by omega) hk.2 32 0 499 (by omega) (by omega)
  · rw [layout_bad hg, Option.bind_some]
    dsimp only
    rw [encode_zero, Option.bind_some, if_neg (by decide), if_pos rfl]
    rfl
end Go.Proofs.Ytiaefbngegmpaaa.Pure
