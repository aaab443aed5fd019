/- What the document's bytes of an inode come to. -/
import Derived.Test.YtkpkmkgmpggjaaaUx10
import Derived.Test.YtkpkmkgmpggjaaaUx11
import Derived.Test.YtkpkmkgmpggjaaaUx13
import Derived.Test.YtkpkmkgmpggjaaaPInode
namespace Go.Proofs.Ytkpkmkgmpggjaaa.Pure
open Go Go.RowKit Go.Proofs.Ytkpkmkgmpggjaaa.U Go.Proofs.YtkpkmkgmpggjaaaW.PrintWords Go.Proofs.YtkpkmkgmpggjaaaW.PrintLast Go.Proofs.YtkpkmkgmpggjaaaW.PrintMore
set_option linter.unusedVariables false
set_option linter.unusedSimpArgs false
theorem refNone_f (x : Ino) : undercroftref09_None.f x.kind x.links x.size x.inl x.attrs x.body = some x.none := by
  unfold undercroftref09_None.f Ino.none
  by_cases h1 : x.kind = 0
  · by_cases h2 : x.links = 0
    · by_cases h3 : x.size = 0
      · cases h4 : x.inl
        · by_cases h5 : x.attrs = 0
          · by_cases h6 : x.body.length = 0
            · simp [h1, h2, h3, h5, h6]
            · simp [h1, h2, h3, h5, h6]
          · simp [h1, h2, h3, h5]
        · simp [h1, h2, h3]
      · simp [h1, h2, h3]
    · simp [h1, h2]
  · simp [h1]
theorem refCheck_f (x : Ino) (k : Nat) (hk : 0 < k) : undercroftref09_Check.f k x.kind x.links x.size x.inl x.attrs x.body = some (if x.ok = true then 0 else 1) := by
  obtain ⟨k, rfl⟩ : ∃ m, k = m + 1 := ⟨k - 1, by omega⟩
  by_cases ho : x.ok = true
  · have ht := Ino.ok_tells ho
    have hl := Ino.ok_len ho
    rw [if_pos ho]
    unfold undercroftref09_Check.f
    rw [if_neg (by omega), if_neg (by omega), if_neg (by omega), if_neg (by omega), if_neg (by omega), if_neg (by omega), if_neg (by omega), if_neg (by omega), undercroftref09_Check.j0, if_neg (by rw [hl]; decide)]
    cases hi : x.inl
    · rw [if_neg (by decide)]
    · rw [if_pos rfl]
      unfold Ino.ok inode_Check.ok at ho
      rw [hi] at ho
      simp only [Bool.and_eq_true] at ho
      have h4 := ho.2
      by_cases c2 : x.kind = 2
      · rw [if_pos c2] at h4; cases h4
      · rw [if_neg c2] at h4 ⊢
        by_cases c1 : x.kind = 1 ∨ x.kind = 3
        · rw [if_pos c1] at h4
          have : x.size ≤ 60 := by simpa using h4
          rw [if_neg (by omega)]
        · omega
  · rw [if_neg ho]
    unfold undercroftref09_Check.f
    have hj : undercroftref09_Check.j0 (k + 1) true x.kind x.links x.size x.inl x.attrs x.body = some 1 := by rw [undercroftref09_Check.j0, if_pos rfl]
    rw [hj]
    by_cases a1 : x.kind < 1
    · rw [if_pos a1]
    rw [if_neg a1]
    by_cases a2 : x.kind > 3
    · rw [if_pos a2]
    rw [if_neg a2]
    by_cases a3 : x.links < 0
    · rw [if_pos a3]
    rw [if_neg a3]
    by_cases a4 : x.links > 100
    · rw [if_pos a4]
    rw [if_neg a4]
    by_cases a5 : x.size < 0
    · rw [if_pos a5]
    rw [if_neg a5]
    by_cases a6 : x.size > 65536
    · rw [if_pos a6]
    rw [if_neg a6]
    by_cases a7 : x.attrs < 0
    · rw [if_pos a7]
    rw [if_neg a7]
    by_cases a8 : x.attrs ≥ 1024
    · rw [if_pos a8]
    rw [if_neg a8, undercroftref09_Check.j0]
    by_cases a9 : ((x.body.length : Int) != 60) = true
    · rw [if_pos a9]
    · rw [if_neg a9]
      have hl : x.body.length = 60 := by
        simp at a9
        omega
      split
      · rename_i hi
        split
        · rfl
        · rename_i c2
          split
          · rfl
          · rename_i c3
            exfalso
            apply ho
            unfold Ino.ok inode_Check.ok
            simp only [Bool.and_eq_true, decide_eq_true_eq, ge_iff_le]
            refine ⟨⟨⟨⟨hl, by omega⟩, by omega⟩, by omega⟩, ?_⟩
            rw [if_neg c2, if_pos (by omega), decide_eq_true (by omega : x.size ≤ 60), Bool.or_true]
      · rename_i hi
        exfalso
        apply ho
        unfold Ino.ok inode_Check.ok
        simp only [Bool.and_eq_true, decide_eq_true_eq, ge_iff_le]
        refine ⟨⟨⟨⟨hl, by omega⟩, by omega⟩, by omega⟩, ?_⟩
        have hi' : x.inl = false := Bool.eq_false_iff.2 hi
        rw [hi']
        by_cases c2 : x.kind = 2
        · rw [if_pos c2]; rfl
        · rw [if_neg c2, if_pos (by omega)]; rfl
theorem refEnc_l0 (n : Int) : ∀ (d k : Nat) (xs : List Int), xs.length + d = 124 → d + 300 < k →
    undercroftref09_Encode.l0 k n xs = some ((xs ++ List.replicate d 0) ++ bytesN (X.crcMore (inoSeed n) (xs ++ List.replicate d 0)) 4, 0)
  | 0, k, xs, hl, hk => by
    obtain ⟨k, rfl⟩ : ∃ m, k = m + 1 := ⟨k - 1, by omega⟩
    have hr := X.crcMore_range (inoSeed n) xs
    unfold undercroftref09_Encode.l0
    rw [if_neg (by omega), refBytes_f _ _ k (by omega), Option.bind_some, clamp4, if_pos (by rw [bytesN_length]; omega), refSum_f _ k (by rw [List.length_append, bytesN_length]; omega) (by rw [List.length_append, bytesN_length]; omega), Option.bind_some,
      inoSeed_append, refBytes_f _ _ k (by omega), Option.bind_some, clamp4, if_pos (by rw [bytesN_length]; omega), u64_wrap, Int.emod_eq_of_lt hr.1 (by omega), List.replicate_zero, List.append_nil]
  | d + 1, k, xs, hl, hk => by
    obtain ⟨k, rfl⟩ : ∃ m, k = m + 1 := ⟨k - 1, by omega⟩
    have ih := refEnc_l0 n d k (xs ++ [0]) (by simp; omega) (by omega)
    unfold undercroftref09_Encode.l0
    rw [if_pos (by omega), if_pos (by omega), ih]
    have e : xs ++ [0] ++ List.replicate d 0 = xs ++ List.replicate (d + 1) 0 := by rw [List.append_assoc]; rfl
    rw [e]
theorem refEnc_j1 (x : Ino) (h60 : x.body.length = 60) (n : Int) (k : Nat) (hk : 400 < k) :
    undercroftref09_Encode.j1 k n [x.kind % 256, if x.inl = true then 1 else 0] x.kind x.links x.size x.inl x.attrs x.body = some (x.enc n, 0) := by
  obtain ⟨k, rfl⟩ : ∃ m, k = m + 1 := ⟨k - 1, by omega⟩
  unfold undercroftref09_Encode.j1
  dsimp only
  rw [refBytes_f _ _ k (by omega), Option.bind_some, clamp2, if_pos (by rw [bytesN_length]; simp), Option.bind_some, refBytes_f _ _ k (by omega), Option.bind_some, clamp4, if_pos (by simp [bytesN_length]), Option.bind_some,
    refBytes_f _ _ k (by omega), Option.bind_some, clamp4, if_pos (by simp [bytesN_length]), Option.bind_some, if_pos (by simp [bytesN_length, h60]), refEnc_l0 n 52 k _ (by simp [bytesN_length, h60]) (by omega)]
  rfl
theorem refEncode_f (x : Ino) (n : Int) (k : Nat) (hk : 410 < k) : undercroftref09_Encode.f k x.kind x.links x.size x.inl x.attrs x.body n = some (encOf x n) := by
  obtain ⟨k, rfl⟩ : ∃ m, k = m + 1 := ⟨k - 1, by omega⟩
  have hj : undercroftref09_Encode.j0 (k + 1) n true x.kind x.links x.size x.inl x.attrs x.body = some ([], 1) := by unfold undercroftref09_Encode.j0; dsimp only; rw [if_pos rfl]
  unfold undercroftref09_Encode.f encOf
  rw [hj]
  by_cases h1 : n < 0
  · rw [if_pos h1, if_neg (by omega)]
  by_cases h2 : n > 1048576
  · rw [if_neg h1, if_pos h2, if_neg (by omega)]
  rw [if_neg h1, if_neg h2, if_pos (by omega), refNone_f, Option.bind_some]
  by_cases hz : x.none = true
  · rw [if_pos hz, if_pos hz]
    unfold undercroftref09_Encode.j0
    dsimp only
    rw [if_neg (by decide), refNone_f, Option.bind_some, if_pos hz, if_pos (by decide)]
  · rw [if_neg hz, if_neg hz, refCheck_f x (k + 1) (by omega), Option.bind_some]
    by_cases ho : x.ok = true
    · have h60 := Ino.ok_len ho
      rw [if_pos ho, if_pos ho]
      unfold undercroftref09_Encode.j0
      dsimp only
      rw [if_neg (by decide), refNone_f, Option.bind_some, if_neg hz, Option.bind_some]
      have hj1 := refEnc_j1 x h60 n k (by omega)
      cases hi : x.inl
      · rw [hi] at hj1
        rw [if_neg (by decide)]
        exact hj1
      · rw [hi] at hj1
        rw [if_pos rfl, if_pos (by simp)]
        exact hj1
    · rw [if_neg ho, if_neg ho]
      exact hj
end Go.Proofs.Ytkpkmkgmpggjaaa.Pure
