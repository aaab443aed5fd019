/- InodeTurned: an inode whose bits were turned within 32 side by side is not read, at any inode, any place and any burst; no condition. -/
import Derived.Test.YtkpkmkgmpggjaaaUx20
import Derived.Test.YtkpkmkgmpggjaaaPInode4
namespace Go.Proofs.Ytkpkmkgmpggjaaa.Pure
open Go Go.RowKit Go.Proofs.Ytkpkmkgmpggjaaa.U Go.Proofs.YtkpkmkgmpggjaaaW.PrintWords Go.Proofs.YtkpkmkgmpggjaaaW.PrintLast Go.Proofs.YtkpkmkgmpggjaaaW.PrintMore
set_option linter.unusedVariables false
set_option linter.unusedSimpArgs false
/-- What is asked of the bytes behind the turning. -/
def TurnedOk (x : Ino) (z : List Int) (first burst : Nat) : Prop :=
  if X.flipTo 1024 first burst z 32 = List.replicate 128 0 then True
  else x.kind = 0 ∨ (decOf (X.flipTo 1024 first burst z 32) 7).2 = 13 ∧ X.flipped 1024 first burst 32 = true ∨ (decOf (X.flipTo 1024 first burst z 32) 7).2 = 0 ∧ X.flipped 1024 first burst 32 = false
theorem turned_l0 (x : Ino) (z : List Int) (hzl : z.length = 128) (hzu : X.u8all z = true) (burst first : Nat) (hu : burst < 4294967296) (hf : first < 1024) (hok : TurnedOk x z first burst) : ∀ (d j k : Nat), j + d = 32 → d + 400 < k →
    undercroftlaw09_InodeTurned.l0 k (burst : Int) (X.flipTo 1024 first burst z j) (first : Int) (X.flipped 1024 first burst j) (j : Int) x.kind x.links x.size x.inl x.attrs x.body = some true
  | 0, j, k, hj, hk => by
    obtain ⟨k, rfl⟩ : ∃ m, k = m + 1 := ⟨k - 1, by omega⟩
    obtain rfl : j = 32 := by omega
    obtain ⟨h1, h2, -⟩ := X.flipTo_tells 1024 first burst z (by rw [hzl]) hzu 32
    unfold TurnedOk at hok
    rw [undercroftlaw09_InodeTurned.l0, if_neg (by omega), if_pos (by decide), Option.bind_some, decode_f _ h2 7 k (by omega), Option.bind_some]
    generalize X.flipTo 1024 first burst z 32 = l at *
    by_cases hz : l = List.replicate 128 0
    · subst hz
      rw [if_pos rfl, if_pos rfl, dec_zero 7 (by decide)]
      rfl
    · have hs : ¬ (strOfNums l).toList = (strOfNums (List.replicate 128 0)).toList := fun h => hz ((str_inj h2 (zeros_u8' 128)).1 h)
      rw [if_neg hz] at hok
      rw [if_neg hs]
      by_cases hk0 : x.kind = 0
      · rw [if_pos hk0, if_neg hs]
      · rw [if_neg hk0]
        rcases hok with h | ⟨h3, h4⟩ | ⟨h3, h4⟩
        · exact absurd h hk0
        · rw [h4]
          show some (((decOf l 7).2 == 13) == true) = some true
          rw [h3]
          rfl
        · rw [h4]
          show some (((decOf l 7).2 == 13) == false) = some true
          rw [h3]
          rfl
  | d + 1, j, k, hj, hk => by
    obtain ⟨k, rfl⟩ : ∃ m, k = m + 1 := ⟨k - 1, by omega⟩
    have ih := turned_l0 x z hzl hzu burst first hu hf hok d (j + 1) k (by omega) (by omega)
    obtain ⟨h1, h2, -⟩ := X.flipTo_tells 1024 first burst z (by rw [hzl]) hzu j
    rw [hzl] at h1
    have hw : wrap64 ((j : Int) + 1) = ((j + 1 : Nat) : Int) := by rw [wrap64_id (by omega) (by omega)]; omega
    have hp : wrap64 ((first : Int) + (j : Int)) = ((first + j : Nat) : Int) := by rw [wrap64_id (by omega) (by omega)]; omega
    have hd : wrap64 (Int.tdiv ((first + j : Nat) : Int) 8) = (((first + j) / 8 : Nat) : Int) := by
      have : Int.tdiv ((first + j : Nat) : Int) 8 = (((first + j) / 8 : Nat) : Int) := rfl
      rw [this, wrap64_id (by omega) (by omega)]
    have hr : Int.tmod ((first + j : Nat) : Int) 8 = (((first + j) % 8 : Nat) : Int) := rfl
    rw [undercroftlaw09_InodeTurned.l0, if_pos (by omega), if_pos (by omega), X.hit_test burst j (by omega) hu, hw, hp, hd, hr]
    simp only [X.flipTo, X.flipped] at ih
    by_cases hbit : burst.testBit j = true
    · rw [if_pos hbit, if_pos rfl]
      by_cases hlt : first + j < 1024
      · have hh : X.hit 1024 first burst j = true := by simp [X.hit, hbit, hlt]
        rw [if_pos hh, hh, Bool.true_or] at ih
        rw [if_pos (by omega), if_pos (by omega), if_pos (by omega), if_pos (by omega), X.turn_bit _ h2 (first + j) (by omega), Int.toNat_natCast]
        exact ih
      · have hh : X.hit 1024 first burst j = false := by simp [X.hit, hlt]
        rw [if_neg (by rw [hh]; decide), hh, Bool.false_or] at ih
        rw [if_neg (by omega)]
        exact ih
    · have hh : X.hit 1024 first burst j = false := by simp [X.hit, hbit]
      rw [if_neg (by rw [hh]; decide), hh, Bool.false_or] at ih
      rw [if_neg hbit, if_neg (by decide)]
      exact ih
theorem first_of (a1 : Int) : ∃ k : Nat, wrap64 (Int.tmod (IntKind.u64.wrap a1) 1024) = (k : Int) ∧ k < 1024 := by
  have e2 : Int.tmod (IntKind.u64.wrap a1) 1024 = (IntKind.u64.wrap a1) % 1024 := Int.tmod_eq_emod_of_nonneg (by rw [u64_wrap]; omega)
  refine ⟨((IntKind.u64.wrap a1) % 1024).toNat, ?_, by omega⟩
  rw [e2, wrap64_id (by omega) (by omega)]
  omega
theorem turned_ino (x : Ino) (hx : x.Wf) (a1 : Int) (burst : Nat) (hu : burst < 4294967296) : undercroftlaw09_InodeTurned.f 500 x.kind x.links x.size x.inl x.attrs x.body a1 (burst : Int) = some true := by
  obtain ⟨first, hf, hf2⟩ := first_of a1
  unfold undercroftlaw09_InodeTurned.f
  rw [alive_true _ (by omega), Option.bind_some, if_pos rfl, encode_f x hx, Option.bind_some]
  unfold encOf
  rw [if_pos (show (0 : Int) ≤ 7 ∧ (7 : Int) ≤ 1048576 by decide)]
  by_cases hz : x.none = true
  · have hx0 := none_zero hz
    rw [if_pos hz, if_pos rfl]
    dsimp only
    rw [List.length_replicate, show (((128 : Nat) : Int) != 128) = false from rfl, show (500 : Nat) = 499 + 1 from rfl, undercroftlaw09_InodeTurned.j0, if_neg (by decide), hf]
    refine turned_l0 x _ (List.length_replicate ..) (zeros_u8' 128) burst first hu hf2 ?_ 32 0 499 (by omega) (by omega)
    unfold TurnedOk
    split
    · trivial
    · left
      rw [hx0]
      rfl
  · rw [if_neg hz]
    by_cases ho : x.ok = true
    · rw [if_pos ho, if_pos rfl]
      dsimp only
      have hl := Ino.enc_length (Ino.ok_len ho) 7
      rw [hl, show (((128 : Nat) : Int) != 128) = false from rfl, show (500 : Nat) = 499 + 1 from rfl, undercroftlaw09_InodeTurned.j0, if_neg (by decide), hf]
      refine turned_l0 x _ hl (Ino.enc_u8 hx.body 7) burst first hu hf2 ?_ 32 0 499 (by omega) (by omega)
      unfold TurnedOk
      split
      · trivial
      · rename_i hne
        right
        by_cases ht : X.flipped 1024 first burst 32 = true
        · left
          rw [dec_turned x ho hx.body 7 (by decide) first burst (by omega) ht hne]
          exact ⟨rfl, ht⟩
        · right
          have ht' := Bool.eq_false_iff.2 ht
          rw [flipTo_same _ _ _ _ _ ht', dec_enc x ho 7 (by decide)]
          exact ⟨rfl, ht'⟩
    · rw [if_neg ho, if_neg (by decide)]
      dsimp only
      rw [show (500 : Nat) = 499 + 1 from rfl, undercroftlaw09_InodeTurned.j0, if_pos rfl]
      rfl
theorem InodeTurned (a0_0 a0_1 a0_2 : Int) (a0_3 : Bool) (a0_4 : Int) (l0_5 : List Int) (a1 a2 : Int) (w0 : (Lit.int .i64 a0_0).wf = true) (w1 : (Lit.int .i64 a0_1).wf = true) (w2 : (Lit.int .i64 a0_2).wf = true) (w4 : (Lit.int .i64 a0_4).wf = true)
    (hw : ∀ c ∈ l0_5, (Lit.int .u8 c).wf = true) (y : l0_5.length * 1 ≤ 140737488351232) (_w1 : (Lit.int .i64 a1).wf = true) (hwf2 : (Lit.int .u32 a2).wf = true) : ∃ k, undercroftlaw09_InodeTurned.f k a0_0 a0_1 a0_2 a0_3 a0_4 l0_5 a1 a2 = some true := by
  have h2 : 0 ≤ a2 ∧ a2 < 4294967296 := by
    simp [Lit.wf, IntKind.max, IntKind.min, IntKind.bits, IntKind.signed] at hwf2
    omega
  obtain ⟨burst, rfl⟩ := Int.eq_ofNat_of_zero_le h2.1
  exact ⟨500, turned_ino ⟨a0_0, a0_1, a0_2, a0_3, a0_4, l0_5⟩ (ino_wf w0 w1 w2 w4 hw y) a1 burst (by omega)⟩
end Go.Proofs.Ytkpkmkgmpggjaaa.Pure
