/- The free chunks that lie in no greater free one: how many there are in a chunk, and how many blocks they have together. -/
import Derived.Test.YtlhpejdbmbpmhaaUx3
import Derived.Test.YtlhpejdbmbpmhaaPBuddy
namespace Go.Proofs.Ytlhpejdbmbpmhaa.Pure
open Go Go.RowKit Go.Proofs.Ytlhpejdbmbpmhaa.U Go.Proofs.YtlhpejdbmbpmhaaW.PrintWords Go.Proofs.YtlhpejdbmbpmhaaW.PrintLast Go.Proofs.YtlhpejdbmbpmhaaW.PrintMore
set_option linter.unusedVariables false
set_option linter.unusedSimpArgs false
open X (cntP firP)
/-- The chunk of order o at c is free and lies in no greater one that is. -/
def maxB (l : List Int) (n o c : Nat) : Bool := decide (c % 2 ^ o = 0) && (freeB l n c o && (decide (o = 6) || !freeB l n (c - c % 2 ^ (o + 1)) (o + 1)))
theorem freeB_iff {l : List Int} {n c o : Nat} : freeB l n c o = true ↔ c + 2 ^ o ≤ n ∧ ∀ i, c ≤ i → i < c + 2 ^ o → bitN l i = false := by
  unfold freeB
  rw [Bool.and_eq_true, decide_eq_true_eq, beq_iff_eq, X.cntP_zero]
theorem freeB_sub {l : List Int} {n c o c' o' : Nat} (h : freeB l n c o = true) (h1 : c ≤ c') (h2 : c' + 2 ^ o' ≤ c + 2 ^ o) : freeB l n c' o' = true := by
  obtain ⟨h3, h4⟩ := freeB_iff.1 h
  exact freeB_iff.2 ⟨by omega, fun i h5 h6 => h4 i (by omega) (by omega)⟩
theorem dvd_down {c o j : Nat} (h : c % 2 ^ j = 0) (hoj : o ≤ j) : c % 2 ^ o = 0 := Nat.mod_eq_zero_of_dvd (Nat.dvd_trans (Nat.pow_dvd_pow 2 hoj) (Nat.dvd_of_mod_eq_zero h))
theorem down_mod (c S : Nat) : (c - c % S) % S = 0 := by
  have := Nat.div_add_mod c S
  rw [show c - c % S = S * (c / S) from by omega]
  exact Nat.mul_mod_right _ _
/-- No greater chunk around the one of order o at a is free. -/
def Par (l : List Int) (n o a : Nat) : Prop := o = 6 ∨ freeB l n (a - a % 2 ^ (o + 1)) (o + 1) = false
theorem up_none {l : List Int} {n o a : Nat} (ha : a % 2 ^ o = 0) (hp : Par l n o a) {j c : Nat} (hj : o < j) (hj6 : j ≤ 6) (h1 : a ≤ c) (h2 : c < a + 2 ^ o) : maxB l n j c = false := by
  cases hc : maxB l n j c
  · rfl
  · exfalso
    unfold maxB at hc
    rw [Bool.and_eq_true, Bool.and_eq_true, decide_eq_true_eq] at hc
    obtain ⟨h3, h4, _⟩ := hc
    have h5 := mult_next Nat.one_le_two_pow ha (dvd_down h3 (by omega : o ≤ j)) h1 h2
    subst h5
    rcases hp with h6 | h6
    · omega
    · rw [dvd_down h3 (by omega : o + 1 ≤ j), Nat.sub_zero] at h6
      rw [freeB_sub h4 (Nat.le_refl _) (by have := Nat.pow_le_pow_right (n := 2) (by decide) (by omega : o + 1 ≤ j); omega)] at h6
      cases h6
theorem cnt_up {l : List Int} {n o a : Nat} (ha : a % 2 ^ o = 0) (hp : Par l n o a) {j : Nat} (hj : o < j) (hj6 : j ≤ 6) : cntP (maxB l n j) a (2 ^ o) = 0 := X.cntP_zero.2 (fun _ h1 h2 => up_none ha hp hj hj6 h1 h2)
theorem maxB_no {l : List Int} {n o c : Nat} (h : freeB l n c o = false) : maxB l n o c = false := by
  unfold maxB
  rw [h, Bool.false_and, Bool.and_false]
theorem cnt_far {l : List Int} {n a : Nat} (h : n ≤ a) (j d : Nat) : cntP (maxB l n j) a d = 0 := X.cntP_zero.2 (fun i h1 _ => maxB_no (freeB_no (by have : 1 ≤ 2 ^ j := Nat.one_le_two_pow; omega)))
theorem cnt_one (p : Nat → Bool) (a : Nat) : cntP p a 1 = (p a).toNat := by simp [cntP]
theorem cnt_stride {l : List Int} {n o a : Nat} (ha : a % 2 ^ o = 0) : cntP (maxB l n o) a (2 ^ o) = (maxB l n o a).toNat := by
  have hp : 1 ≤ 2 ^ o := Nat.one_le_two_pow
  have h1 := X.cntP_add (maxB l n o) a 1 (2 ^ o - 1)
  rw [show 1 + (2 ^ o - 1) = 2 ^ o from by omega, cnt_one] at h1
  have h2 : cntP (maxB l n o) (a + 1) (2 ^ o - 1) = 0 := X.cntP_zero.2 (fun c h3 h4 => by
    cases hc : maxB l n o c
    · rfl
    · unfold maxB at hc
      rw [Bool.and_eq_true, decide_eq_true_eq] at hc
      have := mult_next hp ha hc.1 (by omega) (by omega)
      omega)
  omega
theorem maxB_top {l : List Int} {n o a : Nat} (ha : a % 2 ^ o = 0) (hp : Par l n o a) : maxB l n o a = freeB l n a o := by
  unfold maxB
  rw [decide_eq_true ha, Bool.true_and]
  rcases hp with h | h
  · rw [decide_eq_true h, Bool.true_or, Bool.and_true]
  · rw [h, Bool.not_false, Bool.or_true, Bool.and_true]
theorem cnt_down {l : List Int} {n o a : Nat} (ha : a % 2 ^ o = 0) (hf : freeB l n a o = true) (ho : o ≤ 6) {j : Nat} (hj : j < o) : cntP (maxB l n j) a (2 ^ o) = 0 := X.cntP_zero.2 (fun c h1 h2 => by
  cases hc : maxB l n j c
  · rfl
  · exfalso
    have hS : (a + 2 ^ o) % 2 ^ (j + 1) = 0 := dvd_down (mult_add ha) (by omega)
    have hS' : a % 2 ^ (j + 1) = 0 := dvd_down ha (by omega)
    have hS1 : 1 ≤ 2 ^ (j + 1) := Nat.one_le_two_pow
    have h3 := down_mod c (2 ^ (j + 1))
    have h4 := Nat.mod_lt c hS1
    have h5 := Nat.mod_le c (2 ^ (j + 1))
    have h6 : a ≤ c - c % 2 ^ (j + 1) := by
      rcases Nat.lt_or_ge (c - c % 2 ^ (j + 1)) a with h7 | h7
      · have := mult_next hS1 h3 hS' (by omega) (by omega)
        omega
      · exact h7
    have h7 : c - c % 2 ^ (j + 1) + 2 ^ (j + 1) ≤ a + 2 ^ o := by
      rcases Nat.lt_or_ge (a + 2 ^ o) (c - c % 2 ^ (j + 1) + 2 ^ (j + 1)) with h8 | h8
      · have := mult_next hS1 h3 hS (by omega) (by omega)
        omega
      · exact h8
    unfold maxB at hc
    rw [Bool.and_eq_true, Bool.and_eq_true, Bool.or_eq_true, decide_eq_true_eq, decide_eq_true_eq] at hc
    rcases hc.2.2 with h8 | h8
    · omega
    · rw [freeB_sub hf h6 h7] at h8
      cases h8)
theorem cnt_free {l : List Int} {n o a : Nat} (ha : a % 2 ^ o = 0) (hp : Par l n o a) (hf : freeB l n a o = true) (ho : o ≤ 6) (j : Nat) (hj : j ≤ 6) : cntP (maxB l n j) a (2 ^ o) = if j = o then 1 else 0 := by
  rcases Nat.lt_trichotomy j o with h | h | h
  · rw [cnt_down ha hf ho h, if_neg (by omega)]
  · subst h
    rw [cnt_stride ha, maxB_top ha hp, hf, if_pos rfl]
    rfl
  · rw [cnt_up ha hp h hj, if_neg (by omega)]
theorem cnt_leaf {l : List Int} {n a : Nat} (hp : Par l n 0 a) (hf : freeB l n a 0 = false) (j : Nat) (hj : j ≤ 6) : cntP (maxB l n j) a (2 ^ 0) = 0 := by
  rcases Nat.eq_zero_or_pos j with h | h
  · subst h
    rw [cnt_stride (Nat.mod_one _), maxB_no hf]
    rfl
  · exact cnt_up (Nat.mod_one _) hp h hj
theorem half_mod {a o : Nat} (ha : a % 2 ^ (o + 1) = 0) : (a + 2 ^ o) % 2 ^ (o + 1) = 2 ^ o := by
  rw [Nat.add_mod, ha, Nat.zero_add, Nat.mod_mod, Nat.mod_eq_of_lt]
  exact Nat.pow_lt_pow_right (by decide) (by omega)
theorem par_half {l : List Int} {n o a : Nat} (ha : a % 2 ^ (o + 1) = 0) (hf : freeB l n a (o + 1) = false) : Par l n o a ∧ Par l n o (a + 2 ^ o) := by
  refine ⟨.inr ?_, .inr ?_⟩
  · rw [ha, Nat.sub_zero]
    exact hf
  · rw [half_mod ha, Nat.add_sub_cancel]
    exact hf
theorem half_low {a o : Nat} (ha : a % 2 ^ (o + 1) = 0) : a % 2 ^ o = 0 ∧ (a + 2 ^ o) % 2 ^ o = 0 := ⟨dvd_down ha (by omega), mult_add (dvd_down ha (by omega))⟩
/-- Of seven counts: what they are together. -/
def S7 (f : Nat → Nat) : Nat := f 0 + 2 * f 1 + 4 * f 2 + 8 * f 3 + 16 * f 4 + 32 * f 5 + 64 * f 6
theorem S7_congr {f g : Nat → Nat} (h : ∀ j, j ≤ 6 → f j = g j) : S7 f = S7 g := by
  unfold S7
  rw [h 0 (by omega), h 1 (by omega), h 2 (by omega), h 3 (by omega), h 4 (by omega), h 5 (by omega), h 6 (by omega)]
theorem S7_add (f g : Nat → Nat) : S7 (fun j => f j + g j) = S7 f + S7 g := by
  unfold S7
  dsimp only
  omega
theorem S7_one_ : ∀ o : Fin 7, S7 (fun j => if j = o.val then 1 else 0) = 2 ^ o.val := by decide
theorem S7_one {o : Nat} (ho : o ≤ 6) : S7 (fun j => if j = o then 1 else 0) = 2 ^ o := S7_one_ ⟨o, by omega⟩
theorem S7_zero : S7 (fun _ => 0) = 0 := rfl
/-- Block i is there and free. -/
def frB (l : List Int) (n i : Nat) : Bool := decide (i < n) && !bitN l i
theorem sum_chunk (l : List Int) (n : Nat) : ∀ (o : Nat), o ≤ 6 → ∀ a, a % 2 ^ o = 0 → Par l n o a → S7 (fun j => cntP (maxB l n j) a (2 ^ o)) = cntP (frB l n) a (2 ^ o) := by
  have free : ∀ (o : Nat), o ≤ 6 → ∀ a, a % 2 ^ o = 0 → Par l n o a → freeB l n a o = true → S7 (fun j => cntP (maxB l n j) a (2 ^ o)) = cntP (frB l n) a (2 ^ o) := by
    intro o ho a ha hp hf
    rw [S7_congr (fun j hj => cnt_free ha hp hf ho j hj), S7_one ho]
    obtain ⟨h1, h2⟩ := freeB_iff.1 hf
    exact (X.cntP_all.2 (fun i h3 h4 => by unfold frB; rw [decide_eq_true (by omega), h2 i h3 h4]; rfl)).symm
  intro o
  induction o with
  | zero =>
    intro ho a ha hp
    cases hf : freeB l n a 0
    · rw [S7_congr (g := fun _ => 0) (fun j hj => cnt_leaf hp hf j hj), S7_zero]
      refine (X.cntP_zero.2 (fun i h1 h2 => ?_)).symm
      have h3 : i = a := by rw [Nat.pow_zero] at h2; omega
      subst h3
      unfold frB
      by_cases h4 : i < n
      · have h5 : ¬ (i + 2 ^ 0 ≤ n ∧ ∀ j, i ≤ j → j < i + 2 ^ 0 → bitN l j = false) := fun h => by rw [freeB_iff.2 h] at hf; cases hf
        cases hb : bitN l i
        · exact absurd ⟨h4, fun j h6 h7 => by rw [show j = i from by rw [Nat.pow_zero] at h7; omega]; exact hb⟩ h5
        · rw [Bool.not_true, Bool.and_false]
      · rw [decide_eq_false h4, Bool.false_and]
    · exact free 0 ho a ha hp hf
  | succ o ih =>
    intro ho a ha hp
    cases hf : freeB l n a (o + 1)
    · obtain ⟨p1, p2⟩ := par_half ha hf
      obtain ⟨q1, q2⟩ := half_low ha
      have h1 := ih (by omega) a q1 p1
      have h2 := ih (by omega) (a + 2 ^ o) q2 p2
      rw [Nat.pow_succ, Nat.mul_two, X.cntP_add, ← h1, ← h2, ← S7_add]
      exact S7_congr (fun j _ => X.cntP_add _ _ _ _)
    · exact free (o + 1) ho a ha hp hf
theorem sum_all (l : List Int) (n : Nat) : S7 (fun j => cntP (maxB l n j) 0 n) = cntP (frB l n) 0 n := by
  have big : ∀ q, S7 (fun j => cntP (maxB l n j) 0 (64 * q)) = cntP (frB l n) 0 (64 * q) := by
    intro q
    induction q with
    | zero => rfl
    | succ q ih =>
      rw [show 64 * (q + 1) = 64 * q + 64 from by omega, X.cntP_add, ← ih, Nat.zero_add]
      have h1 := sum_chunk l n 6 (by decide) (64 * q) (by omega) (.inl rfl)
      rw [show (2 ^ 6 : Nat) = 64 from rfl] at h1
      rw [← h1, ← S7_add]
      refine S7_congr (fun j _ => ?_)
      have := X.cntP_add (maxB l n j) 0 (64 * q) 64
      rw [Nat.zero_add] at this
      exact this
  have h1 := big n
  have cut : ∀ p : Nat → Bool, cntP p n (64 * n - n) = 0 → cntP p 0 (64 * n) = cntP p 0 n := by
    intro p hp
    have := X.cntP_add p 0 n (64 * n - n)
    rw [show n + (64 * n - n) = 64 * n from by omega, Nat.zero_add, hp] at this
    exact this
  rw [cut _ (X.cntP_zero.2 (fun i h2 _ => by unfold frB; rw [decide_eq_false (by omega), Bool.false_and]))] at h1
  rw [← h1]
  exact S7_congr (fun j _ => (cut _ (cnt_far (Nat.le_refl _) _ _)).symm)
theorem cnt_not (p : Nat → Bool) (a d : Nat) : cntP (fun i => !p i) a d + cntP p a d = d := by
  induction d with
  | zero => rfl
  | succ d ih =>
    simp only [cntP]
    cases p (a + d) <;> simp <;> omega
theorem sum_free (l : List Int) (n : Nat) : S7 (fun j => cntP (maxB l n j) 0 n) = n - cntP (bitN l) 0 n := by
  rw [sum_all, X.cntP_congr (q := fun i => !bitN l i) (fun i _ h => by unfold frB; rw [decide_eq_true (by omega), Bool.true_and])]
  have := cnt_not (bitN l) 0 n
  omega
/-- A free chunk lies in one that is counted. -/
theorem max_over (l : List Int) (n : Nat) (d : Nat) : ∀ o c, o + d = 6 → c % 2 ^ o = 0 → freeB l n c o = true → ∃ j c', o ≤ j ∧ j ≤ 6 ∧ maxB l n j c' = true := by
  induction d with
  | zero => exact fun o c h hc hf => ⟨o, c, Nat.le_refl _, by omega, by rw [maxB_top hc (.inl (by omega))]; exact hf⟩
  | succ d ih =>
    intro o c h hc hf
    cases hu : freeB l n (c - c % 2 ^ (o + 1)) (o + 1)
    · exact ⟨o, c, Nat.le_refl _, by omega, by rw [maxB_top hc (.inr hu)]; exact hf⟩
    · obtain ⟨j, c', h1, h2, h3⟩ := ih (o + 1) _ (by omega) (down_mod _ _) hu
      exact ⟨j, c', by omega, h2, h3⟩
theorem maxB_pos {l : List Int} {n o : Nat} : 0 < cntP (maxB l n o) 0 n ↔ ∃ c, maxB l n o c = true := by
  constructor
  · intro h
    refine Classical.byContradiction fun hn => ?_
    have : cntP (maxB l n o) 0 n = 0 := X.cntP_zero.2 (fun i _ _ => by
      cases hb : maxB l n o i
      · rfl
      · exact absurd ⟨i, hb⟩ hn)
    omega
  · rintro ⟨c, hc⟩
    have hf : freeB l n c o = true := by
      unfold maxB at hc
      rw [Bool.and_eq_true, Bool.and_eq_true] at hc
      exact hc.2.1
    have hle := freeB_le hf
    have : 1 ≤ 2 ^ o := Nat.one_le_two_pow
    rcases Nat.eq_zero_or_pos (cntP (maxB l n o) 0 n) with h | h
    · rw [X.cntP_zero.1 h c (by omega) (by omega)] at hc
      cases hc
    · exact h
theorem maxB_free {l : List Int} {n o c : Nat} (hc : maxB l n o c = true) : c % 2 ^ o = 0 ∧ freeB l n c o = true := by
  unfold maxB at hc
  rw [Bool.and_eq_true, Bool.and_eq_true, decide_eq_true_eq] at hc
  exact ⟨hc.1, hc.2.1⟩
end Go.Proofs.Ytlhpejdbmbpmhaa.Pure
