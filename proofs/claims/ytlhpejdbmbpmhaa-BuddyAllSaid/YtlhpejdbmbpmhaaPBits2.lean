/- The document's maps of bits: the same, bit by bit. -/
import Derived.Test.YtlhpejdbmbpmhaaUx8
import Derived.Test.YtlhpejdbmbpmhaaUx9
import Derived.Test.YtlhpejdbmbpmhaaUx12
import Derived.Test.YtlhpejdbmbpmhaaUx25
import Derived.Test.YtlhpejdbmbpmhaaPBits
namespace Go.Proofs.Ytlhpejdbmbpmhaa.Pure
open Go Go.RowKit Go.Proofs.Ytlhpejdbmbpmhaa.U Go.Proofs.YtlhpejdbmbpmhaaW.PrintWords Go.Proofs.YtlhpejdbmbpmhaaW.PrintLast Go.Proofs.YtlhpejdbmbpmhaaW.PrintMore
set_option linter.unusedVariables false
set_option linter.unusedSimpArgs false
open X (cntP firP)
theorem loN_nat (f : Nat) : loN (f : Int) = f := by unfold loN mx; omega
theorem hiN_nat {l : List Int} {b : Nat} (h : b ≤ 8 * l.length) : hiN l (b : Int) = b := by unfold hiN mn; omega
theorem shl1 (r : Nat) (hr : r < 8) : shl .u8 1 (r : Int) = ((2 ^ r : Nat) : Int) := by
  rcases (show r = 0 ∨ r = 1 ∨ r = 2 ∨ r = 3 ∨ r = 4 ∨ r = 5 ∨ r = 6 ∨ r = 7 by omega) with rfl | rfl | rfl | rfl | rfl | rfl | rfl | rfl <;> rfl
theorem and_pow (c r : Nat) : c &&& 2 ^ r = (c.testBit r).toNat * 2 ^ r := by
  apply Nat.eq_of_testBit_eq
  intro i
  rw [Nat.testBit_and, Nat.testBit_two_pow]
  by_cases h : r = i
  · subst h
    cases hc : c.testBit r
    · simp
    · simp [Nat.testBit_two_pow]
  · cases hc : c.testBit r
    · simp [h]
    · simp [h, Nat.testBit_two_pow]
theorem pow8 {r : Nat} (hr : r < 8) : 2 ^ r < 256 := Nat.pow_lt_pow_right (a := 2) (n := 8) (by decide) hr
theorem getB_in {l : List Int} {i : Nat} (h : i < 8 * l.length) : getB l (i : Int) = bitN l i := by
  unfold getB
  rw [decide_eq_true (by omega), Bool.true_and, Int.toNat_natCast]
theorem getB_out {l : List Int} {i : Int} (h : ¬ (0 ≤ i ∧ i < 8 * (l.length : Int))) : getB l i = false := by
  unfold getB
  rw [decide_eq_false h, Bool.false_and]
theorem get_f (l : List Int) (hl : X.u8all l = true) (hm : l.length ≤ 140737488355328) (a1 : Int) (h2 : a1 ≤ 9223372036854775807) : bits_Get.f l a1 = some (getB l a1) := by
  unfold bits_Get.f
  by_cases h0 : 0 ≤ a1
  · rw [if_pos h0]
    by_cases h1 : a1 / 8 < (l.length : Int)
    · obtain ⟨i, rfl⟩ := Int.eq_ofNat_of_zero_le h0
      obtain ⟨c, hc, hc2⟩ := byteN hl (i / 8)
      rw [if_pos h1, if_pos (by omega), X.and7 (by omega) h2, if_pos (by omega), rd_byte, hc, show ((i : Int) % 8) = ((i % 8 : Nat) : Int) from by omega, shl1 _ (Nat.mod_lt _ (by decide)), and_u8N _ _ hc2 (pow8 (Nat.mod_lt _ (by decide))), getB_in (by omega)]
      have hb := bitN_byte (l := l) (i := i % 8) hc (Nat.mod_lt _ (by decide))
      rw [show 8 * (i / 8) + i % 8 = i from by omega] at hb
      rw [hb, and_pow]
      have hp : 0 < 2 ^ (i % 8) := Nat.pow_pos (by decide)
      congr 1
      cases c.testBit (i % 8)
      · simp
      · simp only [Bool.toNat_true, Nat.one_mul]
        rw [bne_iff_ne]
        omega
    · rw [if_neg h1, getB_out (by omega)]
  · rw [if_neg h0, getB_out (by omega)]
theorem refGet_f (l : List Int) (hl : X.u8all l = true) (hm : l.length ≤ 140737488355328) (a1 : Int) (h2 : a1 ≤ 9223372036854775807) : undercroftref07_Get.f l a1 = some (getB l a1) := by
  unfold undercroftref07_Get.f
  by_cases h0 : 0 ≤ a1
  · rw [if_pos h0]
    obtain ⟨i, rfl⟩ := Int.eq_ofNat_of_zero_le h0
    have hd : wrap64 (Int.tdiv (i : Int) 8) = ((i / 8 : Nat) : Int) := by
      have : Int.tdiv (i : Int) 8 = ((i / 8 : Nat) : Int) := rfl
      rw [this, wrap_id (by omega) (by omega)]
    have hr : Int.tmod (i : Int) 8 = ((i % 8 : Nat) : Int) := rfl
    rw [hd, hr]
    by_cases h1 : ((i / 8 : Nat) : Int) < (l.length : Int)
    · obtain ⟨c, hc, hc2⟩ := byteN hl (i / 8)
      rw [if_pos h1, if_pos (by omega), if_pos (by omega), getB_in (by omega)]
      have hrd : rd l ((i / 8 : Nat) : Int) = (c : Int) := by unfold rd; rw [Int.toNat_natCast]; exact hc
      have hs : shr .u8 (c : Int) ((i % 8 : Nat) : Int) = ((c / 2 ^ (i % 8) : Nat) : Int) := by
        unfold shr
        rw [Int.toNat_natCast, Nat.min_eq_left (show i % 8 ≤ IntKind.u8.bits from by have : IntKind.u8.bits = 8 := rfl; omega), Int.natCast_ediv, Int.natCast_pow]
        rfl
      have hlt : c / 2 ^ (i % 8) < 256 := Nat.lt_of_le_of_lt (Nat.div_le_self _ _) hc2
      have h1' : Go.bits .and .u8 ((c / 2 ^ (i % 8) : Nat) : Int) 1 = ((c / 2 ^ (i % 8) &&& 1 : Nat) : Int) := and_u8N _ 1 hlt (by decide)
      rw [hrd, hs, h1']
      have hb := bitN_byte (l := l) (i := i % 8) hc (Nat.mod_lt _ (by decide))
      rw [show 8 * (i / 8) + i % 8 = i from by omega] at hb
      rw [hb, Nat.testBit_eq_decide_div_mod_eq, Nat.and_one_is_mod]
      congr 1
      rcases Nat.mod_two_eq_zero_or_one (c / 2 ^ (i % 8)) with h | h <;> simp [h]
    · rw [if_neg h1, getB_out (by omega)]
  · rw [if_neg h0, getB_out (by omega)]
theorem refCount_l0 (l : List Int) (hl : X.u8all l = true) (hm : l.length ≤ 140737488355328) (b : Nat) (hb : b ≤ 8 * l.length) (d : Nat) : ∀ (k f n : Nat), f + d = b → n ≤ f → d < k → undercroftref07_Count.l0 k l (b : Int) (n : Int) (f : Int) = some ((n + cntP (bitN l) f d : Nat) : Int) := by
  induction d with
  | zero =>
    intro k f n hd hn hk
    obtain ⟨k, rfl⟩ : ∃ m, k = m + 1 := ⟨k - 1, by omega⟩
    rw [undercroftref07_Count.l0, if_neg (by omega)]
    rfl
  | succ d ih =>
    intro k f n hd hn hk
    obtain ⟨k, rfl⟩ : ∃ m, k = m + 1 := ⟨k - 1, by omega⟩
    have hsp : cntP (bitN l) f (d + 1) = (bitN l f).toNat + cntP (bitN l) (f + 1) d := by
      have := X.cntP_add (bitN l) f 1 d
      rw [Nat.add_comm 1 d] at this
      rw [this]
      congr 1
      exact Nat.zero_add _
    have hg := refGet_f l hl hm (f : Int) (by omega)
    rw [getB_in (by omega)] at hg
    have w1 : wrap64 ((f : Int) + 1) = ((f + 1 : Nat) : Int) := by rw [wrap_id (by omega) (by omega)]; omega
    have w2 : wrap64 ((n : Int) + 1) = ((n + 1 : Nat) : Int) := by rw [wrap_id (by omega) (by omega)]; omega
    rw [undercroftref07_Count.l0, if_pos (by omega), hg, Option.bind_some, w1, w2, hsp]
    clear w1 w2 hg hsp
    cases hbit : bitN l f
    · have := ih k (f + 1) n (by omega) (by omega) (by omega)
      rw [if_neg (by decide), this, Bool.toNat_false, Nat.zero_add]
    · have := ih k (f + 1) (n + 1) (by omega) (by omega) (by omega)
      rw [if_pos rfl, this, Bool.toNat_true, Nat.add_assoc]
theorem ends_f (l : List Int) (hm : l.length ≤ 140737488355328) (a1 a2 : Int) : undercroftref07_ends.f l a1 a2 = some ((loN a1 : Int), mn a2 (8 * (l.length : Int))) := by
  unfold undercroftref07_ends.f
  rw [wrap8 l hm, lo_eq]
theorem hi_eq {l : List Int} {a1 a2 : Int} (h : (loN a1 : Int) < mn a2 (8 * (l.length : Int))) : mn a2 (8 * (l.length : Int)) = (hiN l a2 : Int) := by unfold hiN; omega
theorem hi_no {l : List Int} {a1 a2 : Int} (h : ¬ (loN a1 : Int) < mn a2 (8 * (l.length : Int))) : hiN l a2 - loN a1 = 0 := by unfold hiN; omega
theorem refCount_f (l : List Int) (hl : X.u8all l = true) (hm : l.length ≤ 140737488355328) (a1 a2 : Int) (k : Nat) (hk : 8 * l.length + 1 < k) : undercroftref07_Count.f k l a1 a2 = some ((cntP (bitN l) (loN a1) (hiN l a2 - loN a1) : Nat) : Int) := by
  unfold undercroftref07_Count.f
  rw [ends_f l hm, Option.bind_some]
  dsimp only
  have hh := hi_le l a2
  by_cases h : (loN a1 : Int) < mn a2 (8 * (l.length : Int))
  · have he := hi_eq h
    rw [he] at h ⊢
    have := refCount_l0 l hl hm (hiN l a2) hh (hiN l a2 - loN a1) k (loN a1) 0 (by omega) (by omega) (by omega)
    rw [Nat.zero_add] at this
    exact this
  · obtain ⟨k, rfl⟩ : ∃ m, k = m + 1 := ⟨k - 1, by omega⟩
    rw [undercroftref07_Count.l0, if_neg h, hi_no h]
    rfl
/-- A bit cleared, then set if wanted: as the document turns one. -/
theorem one_bit (l : List Int) (hl : X.u8all l = true) (i : Nat) (hi : i < 8 * l.length) (v : Bool) :
    ∃ z : Nat, Go.bits .andNot .u8 (rd l ((i / 8 : Nat) : Int)) (shl .u8 1 ((i % 8 : Nat) : Int)) = (z : Int) ∧ (v = false → IsFill l i (i + 1) v (l.set (i / 8) (z : Int))) ∧
      (v = true → IsFill l i (i + 1) v ((l.set (i / 8) (z : Int)).set (i / 8) (Go.bits .or .u8 (rd (l.set (i / 8) (z : Int)) ((i / 8 : Nat) : Int)) (shl .u8 1 ((i % 8 : Nat) : Int))))) := by
  obtain ⟨c, hc, hc2⟩ := byteN hl (i / 8)
  have hr : i % 8 < 8 := Nat.mod_lt _ (by decide)
  have hrd : rd l ((i / 8 : Nat) : Int) = (c : Int) := by unfold rd; rw [Int.toNat_natCast]; exact hc
  obtain ⟨z, hz, hz2, hz3⟩ := andNot_u8N c (2 ^ (i % 8)) hc2 (pow8 hr)
  have hrd2 : rd (l.set (i / 8) (z : Int)) ((i / 8 : Nat) : Int) = (z : Int) := by
    unfold rd
    rw [Int.toNat_natCast, List.getD_eq_getElem?_getD, List.getElem?_set_self (by omega)]
    rfl
  have hst : ∀ (y : Nat) (w : Bool), y < 256 → (∀ j, j < 8 → y.testBit j = if i % 8 ≤ j ∧ j < i % 8 + 1 then w else bitN l (8 * (i / 8) + j)) → IsFill l i (i + 1) w (l.set (i / 8) (y : Int)) := by
    intro y w hy hbit
    have := set_byte hl (f := i) (b := i + 1) (s := i % 8) (e := i % 8 + 1) (v := w) (by omega) (by omega) (by omega) (by omega) (by omega) (by omega) hy hbit
    rwa [show 8 * (i / 8) + (i % 8 + 1) = i + 1 from by omega] at this
  refine ⟨z, by rw [hrd, shl1 _ hr]; exact hz, fun hv => ?_, fun hv => ?_⟩
  · subst hv
    refine hst z false hz2 (fun j hj => ?_)
    rw [hz3 j hj, Nat.testBit_two_pow, bitN_byte hc hj]
    by_cases e : i % 8 = j
    · rw [if_pos (by omega), decide_eq_true e]; simp
    · rw [if_neg (by omega), decide_eq_false e]; simp
  · subst hv
    rw [hrd2, shl1 _ hr, or_u8N _ _ hz2 (pow8 hr), List.set_set]
    refine hst _ true (Nat.or_lt_two_pow (n := 8) hz2 (pow8 hr)) (fun j hj => ?_)
    rw [Nat.testBit_or, hz3 j hj, Nat.testBit_two_pow, bitN_byte hc hj]
    by_cases e : i % 8 = j
    · rw [if_pos (by omega), decide_eq_true e]; simp
    · rw [if_neg (by omega), decide_eq_false e]; simp
theorem refFill_l0 (v : Bool) (b : Nat) : ∀ (d k f : Nat) (l : List Int), X.u8all l = true → l.length ≤ 140737488355328 → b ≤ 8 * l.length → f + d = b → d < k → ∃ r, undercroftref07_Fill.l0 k v l (b : Int) (f : Int) = some r ∧ IsFill l f b v r
  | 0, k, f, l, hl, hm, hb, hd, hk => by
    obtain ⟨k, rfl⟩ : ∃ m, k = m + 1 := ⟨k - 1, by omega⟩
    exact ⟨l, by rw [undercroftref07_Fill.l0, if_neg (by omega)], IsFill.refl l hl f b v (by omega)⟩
  | d + 1, k, f, l, hl, hm, hb, hd, hk => by
    obtain ⟨k, rfl⟩ : ∃ m, k = m + 1 := ⟨k - 1, by omega⟩
    have w1 : wrap64 ((f : Int) + 1) = ((f + 1 : Nat) : Int) := by rw [wrap_id (by omega) (by omega)]; omega
    have hdv : wrap64 (Int.tdiv (f : Int) 8) = ((f / 8 : Nat) : Int) := by
      have : Int.tdiv (f : Int) 8 = ((f / 8 : Nat) : Int) := rfl
      rw [this, wrap_id (by omega) (by omega)]
    have hr : Int.tmod (f : Int) 8 = ((f % 8 : Nat) : Int) := rfl
    obtain ⟨z, hz, hz0, hz1⟩ := one_bit l hl f (by omega) v
    rw [undercroftref07_Fill.l0, if_pos (by omega), hdv, hr, w1, if_pos (by omega), if_pos (by omega), if_pos (by omega), Option.bind_some, Int.toNat_natCast, hz]
    cases v
    · have h1 := hz0 rfl
      rw [if_neg (by decide)]
      obtain ⟨r, hr, hf⟩ := refFill_l0 false b d k (f + 1) _ h1.u8 (by rw [h1.len]; exact hm) (by rw [h1.len]; exact hb) (by omega) (by omega)
      exact ⟨r, hr, h1.step (by omega) (by omega) hf⟩
    · have h1 := hz1 rfl
      rw [if_pos rfl]
      obtain ⟨r, hr, hf⟩ := refFill_l0 true b d k (f + 1) _ h1.u8 (by rw [h1.len]; exact hm) (by rw [h1.len]; exact hb) (by omega) (by omega)
      exact ⟨r, hr, h1.step (by omega) (by omega) hf⟩
theorem refFill_f (l : List Int) (hl : X.u8all l = true) (hm : l.length ≤ 140737488351232) (a1 a2 : Int) (v : Bool) (k : Nat) (hk : 8 * l.length + 1 < k) : ∃ r, undercroftref07_Fill.f k l a1 a2 v = some r ∧ IsFill l (loN a1) (hiN l a2) v r := by
  unfold undercroftref07_Fill.f
  rw [Option.bind_some, if_pos (by simp; omega), ends_f l (by omega), Option.bind_some, List.nil_append]
  dsimp only
  have hh := hi_le l a2
  by_cases h : (loN a1 : Int) < mn a2 (8 * (l.length : Int))
  · have he := hi_eq h
    rw [he] at h ⊢
    exact refFill_l0 v (hiN l a2) (hiN l a2 - loN a1) k (loN a1) l hl (by omega) hh (by omega) (by omega)
  · obtain ⟨k, rfl⟩ : ∃ m, k = m + 1 := ⟨k - 1, by omega⟩
    exact ⟨l, by rw [undercroftref07_Fill.l0, if_neg h], IsFill.refl l hl _ _ v (by have := hi_no h; omega)⟩
end Go.Proofs.Ytlhpejdbmbpmhaa.Pure
