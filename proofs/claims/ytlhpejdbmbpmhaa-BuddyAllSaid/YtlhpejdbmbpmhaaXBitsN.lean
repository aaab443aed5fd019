/- Bits of bytes over whole numbers: counting, finding the first, masks; no program in sight. -/
import Derived.Test.YtlhpejdbmbpmhaaXBits
import Derived.Test.YtlhpejdbmbpmhaaXCrc
namespace Go.Proofs.Ytlhpejdbmbpmhaa.X
open Go Go.RowKit Go.Proofs.YtlhpejdbmbpmhaaW.PrintWords Go.Proofs.YtlhpejdbmbpmhaaW.PrintLast Go.Proofs.YtlhpejdbmbpmhaaW.PrintMore

/-- How many of d from a on are so; the first that is. -/
def cntP (p : Nat → Bool) (a : Nat) : Nat → Nat
  | 0 => 0
  | d + 1 => cntP p a d + (p (a + d)).toNat
def firP (p : Nat → Bool) (a : Nat) : Nat → Option Nat
  | 0 => none
  | d + 1 => if p a = true then some a else firP p (a + 1) d
theorem cntP_le (p : Nat → Bool) (a d : Nat) : cntP p a d ≤ d := by
  induction d with
  | zero => exact Nat.le_refl _
  | succ d ih => simp only [cntP]; cases p (a + d) <;> simp <;> omega
theorem cntP_add (p : Nat → Bool) (a d e : Nat) : cntP p a (d + e) = cntP p a d + cntP p (a + d) e := by
  induction e with
  | zero => rfl
  | succ e ih => rw [← Nat.add_assoc]; simp only [cntP, ih, Nat.add_assoc]
theorem cntP_shift (p : Nat → Bool) (o a d : Nat) : cntP (fun i => p (o + i)) a d = cntP p (o + a) d := by
  induction d with
  | zero => rfl
  | succ d ih => simp only [cntP, ih, Nat.add_assoc]
theorem cntP_congr {p q : Nat → Bool} {a d : Nat} (h : ∀ i, a ≤ i → i < a + d → p i = q i) : cntP p a d = cntP q a d := by
  induction d with
  | zero => rfl
  | succ d ih => simp only [cntP]; rw [ih (fun i h1 h2 => h i h1 (by omega)), h (a + d) (by omega) (by omega)]
theorem cntP_zero {p : Nat → Bool} {a d : Nat} : cntP p a d = 0 ↔ ∀ i, a ≤ i → i < a + d → p i = false := by
  induction d with
  | zero => exact ⟨fun _ i h1 h2 => by omega, fun _ => rfl⟩
  | succ d ih =>
    simp only [cntP]
    constructor
    · intro h i h1 h2
      by_cases e : i = a + d
      · subst e
        cases hp : p (a + d)
        · rfl
        · rw [hp] at h; simp at h
      · exact ih.1 (by omega) i h1 (by omega)
    · intro h
      rw [ih.2 (fun i h1 h2 => h i h1 (by omega)), h (a + d) (by omega) (by omega)]
      rfl
theorem cntP_all {p : Nat → Bool} {a d : Nat} : cntP p a d = d ↔ ∀ i, a ≤ i → i < a + d → p i = true := by
  induction d with
  | zero => exact ⟨fun _ i h1 h2 => by omega, fun _ => rfl⟩
  | succ d ih =>
    have hl := cntP_le p a d
    simp only [cntP]
    constructor
    · intro h i h1 h2
      have hp : p (a + d) = true := by
        cases hp : p (a + d)
        · rw [hp] at h; simp at h; omega
        · rfl
      by_cases e : i = a + d
      · rw [e]; exact hp
      · rw [hp] at h
        exact ih.1 (by simp at h; omega) i h1 (by omega)
    · intro h
      rw [ih.2 (fun i h1 h2 => h i h1 (by omega)), h (a + d) (by omega) (by omega)]
      rfl
theorem firP_some {p : Nat → Bool} {d : Nat} : ∀ {a i : Nat}, firP p a d = some i ↔ a ≤ i ∧ i < a + d ∧ p i = true ∧ ∀ j, a ≤ j → j < i → p j = false := by
  induction d with
  | zero => intro a i; simp [firP]; omega
  | succ d ih =>
    intro a i
    simp only [firP]
    by_cases h : p a = true
    · rw [if_pos h]
      constructor
      · intro e
        cases e
        exact ⟨Nat.le_refl _, by omega, h, fun j h1 h2 => by omega⟩
      · rintro ⟨h1, h2, h3, h4⟩
        rcases Nat.lt_or_ge a i with hlt | hge
        · have := h4 a (Nat.le_refl _) hlt
          rw [h] at this; cases this
        · rw [show i = a from by omega]
    · rw [if_neg h, ih]
      constructor
      · rintro ⟨h1, h2, h3, h4⟩
        refine ⟨by omega, by omega, h3, fun j h5 h6 => ?_⟩
        by_cases e : j = a
        · rw [e]; exact Bool.eq_false_iff.2 h
        · exact h4 j (by omega) h6
      · rintro ⟨h1, h2, h3, h4⟩
        have : a ≠ i := fun e => h (by rw [e]; exact h3)
        exact ⟨by omega, by omega, h3, fun j h5 h6 => h4 j (by omega) h6⟩
theorem firP_none {p : Nat → Bool} {d : Nat} : ∀ {a : Nat}, firP p a d = none ↔ ∀ i, a ≤ i → i < a + d → p i = false := by
  induction d with
  | zero => intro a; exact ⟨fun _ i h1 h2 => by omega, fun _ => rfl⟩
  | succ d ih =>
    intro a
    simp only [firP]
    by_cases h : p a = true
    · rw [if_pos h]
      exact ⟨fun e => (by cases e), fun e => absurd h (by rw [e a (Nat.le_refl _) (by omega)]; decide)⟩
    · rw [if_neg h, ih]
      constructor
      · intro e i h1 h2
        by_cases e' : i = a
        · rw [e']; exact Bool.eq_false_iff.2 h
        · exact e i (by omega) (by omega)
      · exact fun e i h1 h2 => e i (by omega) (by omega)
theorem firP_add (p : Nat → Bool) (a d e : Nat) (h : ∀ i, a ≤ i → i < a + d → p i = false) : firP p a (d + e) = firP p (a + d) e := by
  induction d generalizing a with
  | zero => rw [Nat.zero_add]; rfl
  | succ d ih =>
    rw [show d + 1 + e = (d + e) + 1 from by omega]
    simp only [firP]
    rw [if_neg (by rw [h a (Nat.le_refl _) (by omega)]; decide), ih (a + 1) (fun i h1 h2 => h i (by omega) (by omega)), show a + 1 + d = a + (d + 1) from by omega]

/-! ### one byte -/
/-- The mask of bits s up to e. -/
def maskN (s e : Nat) : Nat := ((255 * 2 ^ s) % 256) &&& (255 / 2 ^ (8 - e))
theorem maskN_bit : ∀ s : Fin 8, ∀ e : Fin 9, ∀ i : Fin 8, s.val < e.val → (maskN s.val e.val).testBit i.val = (decide (s.val ≤ i.val) && decide (i.val < e.val)) := by decide +kernel
theorem maskN_lt : ∀ s : Fin 8, ∀ e : Fin 9, maskN s.val e.val < 256 := by decide +kernel
theorem mask_bit {s e i : Nat} (hs : s < e) (he : e ≤ 8) (hi : i < 8) : (maskN s e).testBit i = (decide (s ≤ i) && decide (i < e)) := maskN_bit ⟨s, by omega⟩ ⟨e, by omega⟩ ⟨i, hi⟩ hs
theorem mask_lt {s e : Nat} (hs : s < e) (he : e ≤ 8) : maskN s e < 256 := maskN_lt ⟨s, by omega⟩ ⟨e, by omega⟩
theorem bit_big {c i : Nat} (hc : c < 256) (hi : 8 ≤ i) : c.testBit i = false := Nat.testBit_lt_two_pow (Nat.lt_of_lt_of_le hc (Nat.pow_le_pow_right (n := 2) (by decide) hi))
theorem byte_ext {c d : Nat} (hc : c < 256) (hd : d < 256) (h : ∀ i, i < 8 → c.testBit i = d.testBit i) : c = d := by
  apply Nat.eq_of_testBit_eq
  intro i
  by_cases hi : i < 8
  · exact h i hi
  · rw [bit_big hc (by omega), bit_big hd (by omega)]
theorem filter_cnt (p : Nat → Bool) (s e : Nat) (hs : s ≤ e) : ∀ n, ((List.range n).filter fun i => p i && (decide (s ≤ i) && decide (i < e))).length = cntP p s (min e n - s) := by
  intro n
  induction n with
  | zero => rw [Nat.min_zero, Nat.zero_sub]; rfl
  | succ n ih =>
    rw [List.range_succ, List.filter_append, List.length_append, ih]
    by_cases h1 : s ≤ n
    · by_cases h2 : n < e
      · rw [show min e (n + 1) - s = (min e n - s) + 1 from by omega]
        simp only [cntP]
        rw [show s + (min e n - s) = n from by omega]
        cases hp : p n <;> simp [hp, h1, h2]
      · rw [show min e (n + 1) - s = min e n - s from by omega]
        simp [h2]
    · rw [show min e (n + 1) - s = min e n - s from by omega]
      simp [h1]
theorem pop8_mask {c s e : Nat} (hs : s < e) (he : e ≤ 8) : pop8 (c &&& maskN s e) = cntP c.testBit s (e - s) := by
  unfold pop8
  rw [← Nat.min_eq_left he, ← filter_cnt _ _ _ (by omega)]
  congr 1
  apply List.filter_congr
  intro i hi
  rw [Nat.testBit_and, mask_bit (by omega) (by omega) (List.mem_range.1 hi), Nat.min_eq_left he]
theorem low8_eq {n : Nat} (h : n ≠ 0) (hn : n < 256) : n.testBit (low8 n) = true ∧ low8 n < 8 ∧ ∀ j, j < low8 n → n.testBit j = false := by
  unfold low8
  cases hf : (List.range 8).find? fun i => n.testBit i with
  | none =>
    exfalso
    apply h
    apply byte_ext hn (by decide)
    intro i hi
    have := List.find?_eq_none.1 hf i (List.mem_range.2 hi)
    simp at this
    rw [this, Nat.zero_testBit]
  | some i =>
    have h1 := List.find?_some hf
    have h2 := List.mem_range.1 (List.mem_of_find?_eq_some hf)
    refine ⟨h1, h2, fun j hj => ?_⟩
    have h3 := (List.find?_range_eq_some.1 hf).2.2 j hj
    simpa using h3
end Go.Proofs.Ytlhpejdbmbpmhaa.X
