/- BitsCounts: counts of two parts add up to the count of the whole, and that is how many bits are got; no condition. -/
import Derived.Test.YtlieacllpifhkaaUx10
import Derived.Test.YtlieacllpifhkaaPBits3
namespace Go.Proofs.Ytlieacllpifhkaa.Pure
open Go Go.RowKit Go.Proofs.Ytlieacllpifhkaa.U Go.Proofs.YtlieacllpifhkaaW.PrintWords Go.Proofs.YtlieacllpifhkaaW.PrintLast Go.Proofs.YtlieacllpifhkaaW.PrintMore
set_option linter.unusedVariables false
set_option linter.unusedSimpArgs false
open X (cntP firP)
theorem wrap_nat (n : Nat) (h : n ≤ 9223372036854775807) : wrap64 (n : Int) = (n : Int) := wrap_id (by omega) (by omega)
theorem counts_l0 (l : List Int) (hl : X.u8all l = true) (hm : l.length ≤ 140737488355328) (a1 : Int) (d : Nat) : ∀ (k i n : Nat), i + d = 8 * l.length → n = cntP (bitN l) 0 i → 8 * l.length + 2 + d < k →
    undercroftlaw07_BitsCounts.l0 k l a1 ((8 * l.length : Nat) : Int) ((cntP (bitN l) 0 (8 * l.length) : Nat) : Int) (n : Int) (i : Int) = some true := by
  induction d with
  | zero =>
    intro k i n hd hn hk
    obtain ⟨k, rfl⟩ : ∃ m, k = m + 1 := ⟨k - 1, by omega⟩
    have hle := X.cntP_le (bitN l) 0 (8 * l.length)
    obtain rfl : i = 8 * l.length := by omega
    subst hn
    rw [undercroftlaw07_BitsCounts.l0, if_neg (by omega), count_f l hl hm 0 a1 k (by omega), Option.bind_some, count_f l hl hm a1 _ k (by omega), Option.bind_some, hiN_nat (Nat.le_refl _), show loN 0 = 0 from rfl]
    by_cases h1 : a1 < 0
    · rw [if_pos h1, if_neg (by omega), if_pos rfl, show loN a1 = 0 from by unfold loN mx; omega, Nat.sub_zero]
      generalize cntP (bitN l) 0 (8 * l.length) = C at hle ⊢
      simp only [Int.ofNat_zero, Int.natCast_zero, Int.zero_add, Int.add_zero, wrap_nat C (by omega), beq_self_eq_true]
    · rw [if_neg h1]
      by_cases h2 : a1 > ((8 * l.length : Nat) : Int)
      · rw [if_pos h2, if_pos rfl, show hiN l a1 = 8 * l.length from by unfold hiN mn; omega, Nat.sub_zero]
        generalize cntP (bitN l) 0 (8 * l.length) = C at hle ⊢
        simp only [Int.ofNat_zero, Int.natCast_zero, Int.zero_add, Int.add_zero, wrap_nat C (by omega), beq_self_eq_true]
      · rw [if_neg h2, if_pos rfl, show hiN l a1 = a1.toNat from by unfold hiN mn; omega, show loN a1 = a1.toNat from by unfold loN mx; omega, Nat.sub_zero]
        have hsp := X.cntP_add (bitN l) 0 a1.toNat (8 * l.length - a1.toNat)
        rw [show a1.toNat + (8 * l.length - a1.toNat) = 8 * l.length from by omega, Nat.zero_add] at hsp
        rw [wrap_id (by omega) (by omega)]
        congr 1
        rw [beq_iff_eq]
        omega
  | succ d ih =>
    intro k i n hd hn hk
    obtain ⟨k, rfl⟩ : ∃ m, k = m + 1 := ⟨k - 1, by omega⟩
    have hle := X.cntP_le (bitN l) 0 i
    have hg := get_f l hl hm (i : Int) (by omega)
    rw [getB_in (by omega)] at hg
    have hnx : cntP (bitN l) 0 (i + 1) = n + (bitN l i).toNat := by
      rw [hn]
      show cntP (bitN l) 0 i + (bitN l (0 + i)).toNat = _
      rw [Nat.zero_add]
    have w1 : wrap64 ((i : Int) + 1) = ((i + 1 : Nat) : Int) := by rw [wrap_id (by omega) (by omega)]; omega
    have w2 : wrap64 ((n : Int) + 1) = ((n + 1 : Nat) : Int) := by rw [wrap_id (by omega) (by omega)]; omega
    rw [undercroftlaw07_BitsCounts.l0, if_pos (by omega), hg, Option.bind_some, w1, w2]
    clear w1 w2 hg
    cases hbit : bitN l i
    · rw [if_neg (by decide)]
      exact ih k (i + 1) n (by omega) (by rw [hnx, hbit]; rfl) (by omega)
    · rw [if_pos rfl]
      exact ih k (i + 1) (n + 1) (by omega) (by rw [hnx, hbit]; rfl) (by omega)
theorem BitsCounts : undercroftlaw07_BitsCounts.Pure := by
  intro l a1 hmax hsz hwf h1
  have hl := X.u8all_wf hwf
  have hm : l.length ≤ 140737488355328 := by omega
  refine ⟨16 * l.length + 30, ?_⟩
  have hw : wrap64 (8 * (l.length : Int)) = ((8 * l.length : Nat) : Int) := by rw [wrap8 l hm]; omega
  unfold undercroftlaw07_BitsCounts.f
  rw [alive_true _ (by omega), Option.bind_some, if_pos rfl, hw, count_f l hl hm 0 _ _ (by omega), Option.bind_some, hiN_nat (Nat.le_refl _), show loN 0 = 0 from rfl, Nat.sub_zero]
  exact counts_l0 l hl hm a1 (8 * l.length) _ 0 0 (by omega) rfl (by omega)
end Go.Proofs.Ytlieacllpifhkaa.Pure
