/- How many chunks of each order are free: told by the program and by the document alike. -/
import Derived.Test.YtlhpejdbmbpmhaaUx3
import Derived.Test.YtlhpejdbmbpmhaaUx7
import Derived.Test.YtlhpejdbmbpmhaaUx21
import Derived.Test.YtlhpejdbmbpmhaaPBuddy
import Derived.Test.YtlhpejdbmbpmhaaPBuddy3
namespace Go.Proofs.Ytlhpejdbmbpmhaa.Pure
open Go Go.RowKit Go.Proofs.Ytlhpejdbmbpmhaa.U Go.Proofs.YtlhpejdbmbpmhaaW.PrintWords Go.Proofs.YtlhpejdbmbpmhaaW.PrintLast Go.Proofs.YtlhpejdbmbpmhaaW.PrintMore
set_option linter.unusedVariables false
set_option linter.unusedSimpArgs false
open X (cntP firP)
/-- The chunk of order o at c is free and lies in no greater one that is. -/
def maxB (l : List Int) (n o c : Nat) : Bool := decide (c % 2 ^ o = 0) && (freeB l n c o && (decide (o = 6) || !freeB l n (c - c % 2 ^ (o + 1)) (o + 1)))
theorem freeB_sub {l : List Int} {n c o c' o' : Nat} (h : freeB l n c o = true) (h1 : c ≤ c') (h2 : c' + 2 ^ o' ≤ c + 2 ^ o) : freeB l n c' o' = true := by
  obtain ⟨h3, h4⟩ := freeB_iff.1 h
  exact freeB_iff.2 ⟨by omega, fun i h5 h6 => h4 i (by omega) (by omega)⟩
theorem dvd_down {c o j : Nat} (h : c % 2 ^ j = 0) (hoj : o ≤ j) : c % 2 ^ o = 0 := Nat.mod_eq_zero_of_dvd (Nat.dvd_trans (Nat.pow_dvd_pow 2 hoj) (Nat.dvd_of_mod_eq_zero h))
theorem down_mod (c S : Nat) : (c - c % S) % S = 0 := by
  have := Nat.div_add_mod c S
  rw [show c - c % S = S * (c / S) from by omega]
  exact Nat.mul_mod_right _ _
/-- No greater chunk around the one of order o at a is free. -/
def Par (l : List Int) (n o a : Nat) : Prop := o = 6 ∨ freeB l n (a - a % 2 ^ (o + 1)) (o + 1) = false
theorem up_none {l : List Int} {n o a : Nat} (ha : a % 2 ^ o = 0) (hp : Par l n o a) {j c : Nat} (hj : o < j) (hj6 : j ≤ 6) (h1 : a ≤ c) (h2 : c < a + 2 ^ o) : maxB l n j c = false := by
  cases hc : maxB l n j c
  · rfl
  · exfalso
    unfold maxB at hc
    rw [Bool.and_eq_true, Bool.and_eq_true, decide_eq_true_eq] at hc
    obtain ⟨h3, h4, _⟩ := hc
    have h5 := mult_next Nat.one_le_two_pow ha (dvd_down h3 (by omega : o ≤ j)) h1 h2
    subst h5
    rcases hp with h6 | h6
    · omega
    · rw [dvd_down h3 (by omega : o + 1 ≤ j), Nat.sub_zero] at h6
      rw [freeB_sub h4 (Nat.le_refl _) (by have := Nat.pow_le_pow_right (n := 2) (by decide) (by omega : o + 1 ≤ j); omega)] at h6
      cases h6
theorem cnt_up {l : List Int} {n o a : Nat} (ha : a % 2 ^ o = 0) (hp : Par l n o a) {j : Nat} (hj : o < j) (hj6 : j ≤ 6) : cntP (maxB l n j) a (2 ^ o) = 0 := X.cntP_zero.2 (fun _ h1 h2 => up_none ha hp hj hj6 h1 h2)
theorem maxB_no {l : List Int} {n o c : Nat} (h : freeB l n c o = false) : maxB l n o c = false := by
  unfold maxB
  rw [h, Bool.false_and, Bool.and_false]
theorem cnt_far {l : List Int} {n a : Nat} (h : n ≤ a) (j d : Nat) : cntP (maxB l n j) a d = 0 := X.cntP_zero.2 (fun i h1 _ => maxB_no (freeB_no (by have : 1 ≤ 2 ^ j := Nat.one_le_two_pow; omega)))
theorem cnt_one (p : Nat → Bool) (a : Nat) : cntP p a 1 = (p a).toNat := by simp [cntP]
theorem cnt_stride {l : List Int} {n o a : Nat} (ha : a % 2 ^ o = 0) : cntP (maxB l n o) a (2 ^ o) = (maxB l n o a).toNat := by
  have hp : 1 ≤ 2 ^ o := Nat.one_le_two_pow
  have h1 := X.cntP_add (maxB l n o) a 1 (2 ^ o - 1)
  rw [show 1 + (2 ^ o - 1) = 2 ^ o from by omega, cnt_one] at h1
  have h2 : cntP (maxB l n o) (a + 1) (2 ^ o - 1) = 0 := X.cntP_zero.2 (fun c h3 h4 => by
    cases hc : maxB l n o c
    · rfl
    · unfold maxB at hc
      rw [Bool.and_eq_true, decide_eq_true_eq] at hc
      have := mult_next hp ha hc.1 (by omega) (by omega)
      omega)
  omega
theorem maxB_top {l : List Int} {n o a : Nat} (ha : a % 2 ^ o = 0) (hp : Par l n o a) : maxB l n o a = freeB l n a o := by
  unfold maxB
  rw [decide_eq_true ha, Bool.true_and]
  rcases hp with h | h
  · rw [decide_eq_true h, Bool.true_or, Bool.and_true]
  · rw [h, Bool.not_false, Bool.or_true, Bool.and_true]
theorem cnt_down {l : List Int} {n o a : Nat} (ha : a % 2 ^ o = 0) (hf : freeB l n a o = true) (ho : o ≤ 6) {j : Nat} (hj : j < o) : cntP (maxB l n j) a (2 ^ o) = 0 := X.cntP_zero.2 (fun c h1 h2 => by
  cases hc : maxB l n j c
  · rfl
  · exfalso
    have hS : (a + 2 ^ o) % 2 ^ (j + 1) = 0 := dvd_down (mult_add ha) (by omega)
    have hS' : a % 2 ^ (j + 1) = 0 := dvd_down ha (by omega)
    have hS1 : 1 ≤ 2 ^ (j + 1) := Nat.one_le_two_pow
    have h3 := down_mod c (2 ^ (j + 1))
    have h4 := Nat.mod_lt c hS1
    have h5 := Nat.mod_le c (2 ^ (j + 1))
    have h6 : a ≤ c - c % 2 ^ (j + 1) := by
      rcases Nat.lt_or_ge (c - c % 2 ^ (j + 1)) a with h7 | h7
      · have := mult_next hS1 h3 hS' (by omega) (by omega)
        omega
      · exact h7
    have h7 : c - c % 2 ^ (j + 1) + 2 ^ (j + 1) ≤ a + 2 ^ o := by
      rcases Nat.lt_or_ge (a + 2 ^ o) (c - c % 2 ^ (j + 1) + 2 ^ (j + 1)) with h8 | h8
      · have := mult_next hS1 h3 hS (by omega) (by omega)
        omega
      · exact h8
    unfold maxB at hc
    rw [Bool.and_eq_true, Bool.and_eq_true, Bool.or_eq_true, decide_eq_true_eq, decide_eq_true_eq] at hc
    rcases hc.2.2 with h8 | h8
    · omega
    · rw [freeB_sub hf h6 h7] at h8
      cases h8)
theorem cnt_free {l : List Int} {n o a : Nat} (ha : a % 2 ^ o = 0) (hp : Par l n o a) (hf : freeB l n a o = true) (ho : o ≤ 6) (j : Nat) (hj : j ≤ 6) : cntP (maxB l n j) a (2 ^ o) = if j = o then 1 else 0 := by
  rcases Nat.lt_trichotomy j o with h | h | h
  · rw [cnt_down ha hf ho h, if_neg (by omega)]
  · subst h
    rw [cnt_stride ha, maxB_top ha hp, hf, if_pos rfl]
    rfl
  · rw [cnt_up ha hp h hj, if_neg (by omega)]
theorem cnt_leaf {l : List Int} {n a : Nat} (hp : Par l n 0 a) (hf : freeB l n a 0 = false) (j : Nat) (hj : j ≤ 6) : cntP (maxB l n j) a (2 ^ 0) = 0 := by
  rcases Nat.eq_zero_or_pos j with h | h
  · subst h
    rw [cnt_stride (Nat.mod_one _), maxB_no hf]
    rfl
  · exact cnt_up (Nat.mod_one _) hp h hj
theorem half_mod {a o : Nat} (ha : a % 2 ^ (o + 1) = 0) : (a + 2 ^ o) % 2 ^ (o + 1) = 2 ^ o := by
  rw [Nat.add_mod, ha, Nat.zero_add, Nat.mod_mod, Nat.mod_eq_of_lt]
  exact Nat.pow_lt_pow_right (by decide) (by omega)
theorem par_half {l : List Int} {n o a : Nat} (ha : a % 2 ^ (o + 1) = 0) (hf : freeB l n a (o + 1) = false) : Par l n o a ∧ Par l n o (a + 2 ^ o) := by
  refine ⟨.inr ?_, .inr ?_⟩
  · rw [ha, Nat.sub_zero]
    exact hf
  · rw [half_mod ha, Nat.add_sub_cancel]
    exact hf
theorem half_low {a o : Nat} (ha : a % 2 ^ (o + 1) = 0) : a % 2 ^ o = 0 ∧ (a + 2 ^ o) % 2 ^ o = 0 := ⟨dvd_down ha (by omega), mult_add (dvd_down ha (by omega))⟩
/-- Of seven counts: what they are together. -/
def S7 (f : Nat → Nat) : Nat := f 0 + 2 * f 1 + 4 * f 2 + 8 * f 3 + 16 * f 4 + 32 * f 5 + 64 * f 6
theorem S7_congr {f g : Nat → Nat} (h : ∀ j, j ≤ 6 → f j = g j) : S7 f = S7 g := by
  unfold S7
  rw [h 0 (by omega), h 1 (by omega), h 2 (by omega), h 3 (by omega), h 4 (by omega), h 5 (by omega), h 6 (by omega)]
theorem S7_add (f g : Nat → Nat) : S7 (fun j => f j + g j) = S7 f + S7 g := by
  unfold S7
  dsimp only
  omega
theorem S7_one_ : ∀ o : Fin 7, S7 (fun j => if j = o.val then 1 else 0) = 2 ^ o.val := by decide
theorem S7_one {o : Nat} (ho : o ≤ 6) : S7 (fun j => if j = o then 1 else 0) = 2 ^ o := S7_one_ ⟨o, by omega⟩
theorem S7_zero : S7 (fun _ => 0) = 0 := rfl
/-- Block i is there and free. -/
def frB (l : List Int) (n i : Nat) : Bool := decide (i < n) && !bitN l i
theorem sum_chunk (l : List Int) (n : Nat) : ∀ (o : Nat), o ≤ 6 → ∀ a, a % 2 ^ o = 0 → Par l n o a → S7 (fun j => cntP (maxB l n j) a (2 ^ o)) = cntP (frB l n) a (2 ^ o) := by
  have free : ∀ (o : Nat), o ≤ 6 → ∀ a, a % 2 ^ o = 0 → Par l n o a → freeB l n a o = true → S7 (fun j => cntP (maxB l n j) a (2 ^ o)) = cntP (frB l n) a (2 ^ o) := by
    intro o ho a ha hp hf
    rw [S7_congr (fun j hj => cnt_free ha hp hf ho j hj), S7_one ho]
    obtain ⟨h1, h2⟩ := freeB_iff.1 hf
    exact (X.cntP_all.2 (fun i h3 h4 => by unfold frB; rw [decide_eq_true (by omega), h2 i h3 h4]; rfl)).symm
  intro o
  induction o with
  | zero =>
    intro ho a ha hp
    cases hf : freeB l n a 0
    · rw [S7_congr (g := fun _ => 0) (fun j hj => cnt_leaf hp hf j hj), S7_zero]
      refine (X.cntP_zero.2 (fun i h1 h2 => ?_)).symm
      have h3 : i = a := by rw [Nat.pow_zero] at h2; omega
      subst h3
      unfold frB
      by_cases h4 : i < n
      · have h5 : ¬ (i + 2 ^ 0 ≤ n ∧ ∀ j, i ≤ j → j < i + 2 ^ 0 → bitN l j = false) := fun h => by rw [freeB_iff.2 h] at hf; cases hf
        cases hb : bitN l i
        · exact absurd ⟨h4, fun j h6 h7 => by rw [show j = i from by rw [Nat.pow_zero] at h7; omega]; exact hb⟩ h5
        · rw [Bool.not_true, Bool.and_false]
      · rw [decide_eq_false h4, Bool.false_and]
    · exact free 0 ho a ha hp hf
  | succ o ih =>
    intro ho a ha hp
    cases hf : freeB l n a (o + 1)
    · obtain ⟨p1, p2⟩ := par_half ha hf
      obtain ⟨q1, q2⟩ := half_low ha
      have h1 := ih (by omega) a q1 p1
      have h2 := ih (by omega) (a + 2 ^ o) q2 p2
      rw [Nat.pow_succ, Nat.mul_two, X.cntP_add, ← h1, ← h2, ← S7_add]
      exact S7_congr (fun j _ => X.cntP_add _ _ _ _)
    · exact free (o + 1) ho a ha hp hf
theorem sum_all (l : List Int) (n : Nat) : S7 (fun j => cntP (maxB l n j) 0 n) = cntP (frB l n) 0 n := by
  have big : ∀ q, S7 (fun j => cntP (maxB l n j) 0 (64 * q)) = cntP (frB l n) 0 (64 * q) := by
    intro q
    induction q with
    | zero => rfl
    | succ q ih =>
      rw [show 64 * (q + 1) = 64 * q + 64 from by omega, X.cntP_add, ← ih, Nat.zero_add]
      have h1 := sum_chunk l n 6 (by decide) (64 * q) (by omega) (.inl rfl)
      rw [show (2 ^ 6 : Nat) = 64 from rfl] at h1
      rw [← h1, ← S7_add]
      refine S7_congr (fun j _ => ?_)
      have := X.cntP_add (maxB l n j) 0 (64 * q) 64
      rw [Nat.zero_add] at this
      exact this
  have h1 := big n
  have cut : ∀ p : Nat → Bool, cntP p n (64 * n - n) = 0 → cntP p 0 (64 * n) = cntP p 0 n := by
    intro p hp
    have := X.cntP_add p 0 n (64 * n - n)
    rw [show n + (64 * n - n) = 64 * n from by omega, Nat.zero_add, hp] at this
    exact this
  rw [cut _ (X.cntP_zero.2 (fun i h2 _ => by unfold frB; rw [decide_eq_false (by omega), Bool.false_and]))] at h1
  rw [← h1]
  exact S7_congr (fun j _ => (cut _ (cnt_far (Nat.le_refl _) _ _)).symm)
theorem cnt_not (p : Nat → Bool) (a d : Nat) : cntP (fun i => !p i) a d + cntP p a d = d := by
  induction d with
  | zero => rfl
  | succ d ih =>
    simp only [cntP]
    cases p (a + d) <;> simp <;> omega
theorem sum_free (l : List Int) (n : Nat) : S7 (fun j => cntP (maxB l n j) 0 n) = n - cntP (bitN l) 0 n := by
  rw [sum_all, X.cntP_congr (q := fun i => !bitN l i) (fun i _ h => by unfold frB; rw [decide_eq_true (by omega), Bool.true_and])]
  have := cnt_not (bitN l) 0 n
  omega
/-- A free chunk lies in one that is counted. -/
theorem max_over (l : List Int) (n : Nat) (d : Nat) : ∀ o c, o + d = 6 → c % 2 ^ o = 0 → freeB l n c o = true → ∃ j c', o ≤ j ∧ j ≤ 6 ∧ maxB l n j c' = true := by
  induction d with
  | zero => exact fun o c h hc hf => ⟨o, c, Nat.le_refl _, by omega, by rw [maxB_top hc (.inl (by omega))]; exact hf⟩
  | succ d ih =>
    intro o c h hc hf
    cases hu : freeB l n (c - c % 2 ^ (o + 1)) (o + 1)
    · exact ⟨o, c, Nat.le_refl _, by omega, by rw [maxB_top hc (.inr hu)]; exact hf⟩
    · obtain ⟨j, c', h1, h2, h3⟩ := ih (o + 1) _ (by omega) (down_mod _ _) hu
      exact ⟨j, c', by omega, h2, h3⟩
theorem maxB_pos {l : List Int} {n o : Nat} : 0 < cntP (maxB l n o) 0 n ↔ ∃ c, maxB l n o c = true := by
  constructor
  · intro h
    refine Classical.byContradiction fun hn => ?_
    have : cntP (maxB l n o) 0 n = 0 := X.cntP_zero.2 (fun i _ _ => by
      cases hb : maxB l n o i
      · rfl
      · exact absurd ⟨i, hb⟩ hn)
    omega
  · rintro ⟨c, hc⟩
    have hf : freeB l n c o = true := by
      unfold maxB at hc
      rw [Bool.and_eq_true, Bool.and_eq_true] at hc
      exact hc.2.1
    have hle := freeB_le hf
    have : 1 ≤ 2 ^ o := Nat.one_le_two_pow
    rcases Nat.eq_zero_or_pos (cntP (maxB l n o) 0 n) with h | h
    · rw [X.cntP_zero.1 h c (by omega) (by omega)] at hc
      cases hc
    · exact h
theorem maxB_free {l : List Int} {n o c : Nat} (hc : maxB l n o c = true) : c % 2 ^ o = 0 ∧ freeB l n c o = true := by
  unfold maxB at hc
  rw [Bool.and_eq_true, Bool.and_eq_true, decide_eq_true_eq] at hc
  exact ⟨hc.1, hc.2.1⟩
/-- The counts of the chunks below a place. -/
def Cnt (l : List Int) (n : Nat) (cs : List Int) (a : Nat) : Prop := cs.length = 7 ∧ ∀ j : Nat, j ≤ 6 → rd cs (j : Int) = ((cntP (maxB l n j) 0 a : Nat) : Int)
theorem cnt_step (l : List Int) (n j a d : Nat) : cntP (maxB l n j) 0 (a + d) = cntP (maxB l n j) 0 a + cntP (maxB l n j) a d := by
  have := X.cntP_add (maxB l n j) 0 a d
  rwa [Nat.zero_add] at this
theorem Cnt.go {l : List Int} {n : Nat} {cs : List Int} {a : Nat} (h : Cnt l n cs a) (d : Nat) (hz : ∀ j, j ≤ 6 → cntP (maxB l n j) a d = 0) : Cnt l n cs (a + d) :=
  ⟨h.1, fun j hj => by rw [h.2 j hj, cnt_step, hz j hj]; rfl⟩
theorem rd_put (cs : List Int) (o j : Nat) (v : Int) (ho : o < cs.length) : rd (cs.set o v) (j : Int) = if j = o then v else rd cs (j : Int) := by
  unfold rd
  rw [Int.toNat_natCast, List.getD_eq_getElem?_getD, List.getD_eq_getElem?_getD, List.getElem?_set]
  by_cases h : j = o
  · subst h
    rw [if_pos rfl, if_pos rfl, if_pos ho]
    rfl
  · rw [if_neg (fun e => h e.symm), if_neg h]
theorem Cnt.one {l : List Int} {n : Nat} {cs : List Int} {a : Nat} (h : Cnt l n cs a) (o : Nat) (ho : o ≤ 6) (ha : a ≤ 4503599627370496) (d : Nat) (hz : ∀ j, j ≤ 6 → cntP (maxB l n j) a d = if j = o then 1 else 0) : Cnt l n (cs.set o (wrap64 (rd cs (o : Int) + 1))) (a + d) := by
  refine ⟨by rw [List.length_set]; exact h.1, fun j hj => ?_⟩
  have hle := X.cntP_le (maxB l n o) 0 a
  have w : wrap64 (rd cs (o : Int) + 1) = ((cntP (maxB l n o) 0 a + 1 : Nat) : Int) := by rw [h.2 o ho, wrap_id (by omega) (by omega)]; rfl
  rw [rd_put _ _ _ _ (by rw [h.1]; omega), w, cnt_step, hz j hj]
  by_cases e : j = o
  · subst e
    rw [if_pos rfl, if_pos rfl]
  · rw [if_neg e, if_neg e, h.2 j hj]
    rfl
theorem Cnt.cut {l : List Int} {n : Nat} {cs : List Int} {a : Nat} (h : Cnt l n cs a) (hn : n ≤ a) : Cnt l n cs n := by
  refine ⟨h.1, fun j hj => ?_⟩
  have := cnt_step l n j n (a - n)
  rw [show n + (a - n) = a from by omega, cnt_far (Nat.le_refl _)] at this
  rw [h.2 j hj, this]
  rfl
theorem Cnt.uniq {l : List Int} {n : Nat} {cs cs' : List Int} {a : Nat} (h : Cnt l n cs a) (h' : Cnt l n cs' a) : cs = cs' := by
  apply List.ext_getElem (by rw [h.1, h'.1])
  intro i h1 h2
  have e1 := h.2 i (by have := h.1; omega)
  have e2 := h'.2 i (by have := h.1; omega)
  rw [← e2] at e1
  unfold rd at e1
  rw [Int.toNat_natCast, List.getD_eq_getElem?_getD, List.getD_eq_getElem?_getD, List.getElem?_eq_getElem h1, List.getElem?_eq_getElem h2] at e1
  exact e1
theorem part_f (l : List Int) (hl : X.u8all l = true) (hm : l.length ≤ 140737488351232) (n : Nat) (hn : n ≤ 8 * l.length) (k : Nat) (hk : 8 * l.length + 1 < k) : ∀ (o : Nat), o ≤ 6 → ∀ (a : Nat) (cs : List Int), a % 2 ^ o = 0 → Par l n o a → a + 2 ^ o ≤ 2251799813685248 → Cnt l n cs a →
    ∃ r, buddy_Orders.p k l (n : Int) o (a : Int) cs = some r ∧ Cnt l n r (a + 2 ^ o) := by
  intro o
  induction o with
  | zero =>
    intro ho a cs ha hp hb hc
    rw [Nat.pow_zero] at hb
    have hf := poolfree_f l hl (by omega) n hn a 0 (by omega) (by omega) k hk
    rw [show ((0 : Nat) : Int) = 0 from rfl] at hf
    rw [buddy_Orders.p]
    by_cases h : n ≤ a
    · rw [if_pos (by omega)]
      exact ⟨cs, rfl, hc.go _ (fun j _ => cnt_far h j _)⟩
    · rw [if_neg (by omega), hf, Option.bind_some]
      cases hfb : freeB l n a 0
      · rw [if_neg (by decide)]
        exact ⟨cs, rfl, hc.go _ (fun j hj => cnt_leaf hp hfb j hj)⟩
      · rw [if_pos rfl]
        exact ⟨_, rfl, hc.one 0 ho (by omega) _ (fun j hj => cnt_free ha hp hfb ho j hj)⟩
  | succ o ih =>
    intro ho a cs ha hp hb hc
    have h2 : 2 ^ (o + 1) = 2 ^ o + 2 ^ o := by rw [Nat.pow_succ, Nat.mul_two]
    have hf := poolfree_f l hl (by omega) n hn a (o + 1) ho (by omega) k hk
    rw [buddy_Orders.p]
    by_cases h : n ≤ a
    · rw [if_pos (by omega)]
      exact ⟨cs, rfl, hc.go _ (fun j _ => cnt_far h j _)⟩
    · rw [if_neg (by omega), hf, Option.bind_some]
      cases hfb : freeB l n a (o + 1)
      · rw [if_neg (by decide)]
        obtain ⟨p1, p2⟩ := par_half ha hfb
        obtain ⟨q1, q2⟩ := half_low ha
        obtain ⟨r1, h3, h4⟩ := ih (by omega) a cs q1 p1 (by omega) hc
        obtain ⟨r2, h5, h6⟩ := ih (by omega) (a + 2 ^ o) r1 q2 p2 (by omega) h4
        have w : wrap64 ((a : Int) + 2 ^ o) = ((a + 2 ^ o : Nat) : Int) := by
          have e : ((2 : Int) ^ o) = ((2 ^ o : Nat) : Int) := by rw [Int.natCast_pow]; rfl
          rw [e, wrap_id (by omega) (by omega)]
          rfl
        rw [h3, Option.bind_some, w, h5]
        refine ⟨r2, rfl, ?_⟩
        rw [h2, ← Nat.add_assoc]
        exact h6
      · rw [if_pos rfl]
        exact ⟨_, rfl, hc.one (o + 1) ho (by omega) _ (fun j hj => cnt_free ha hp hfb ho j hj)⟩
theorem orders_l0 (l : List Int) (hl : X.u8all l = true) (hm : l.length ≤ 140737488351232) (n : Nat) (hn : n ≤ 8 * l.length) (d : Nat) : ∀ (k a : Nat) (cs : List Int), a % 64 = 0 → n ≤ a + d → a ≤ n + 64 → Cnt l n cs a → 8 * l.length + 2 + d < k →
    ∃ r, buddy_Orders.l0 k l (n : Int) (a : Int) cs = some r ∧ Cnt l n r n := by
  induction d with
  | zero =>
    intro k a cs ha hd hb hc hk
    obtain ⟨k, rfl⟩ : ∃ m, k = m + 1 := ⟨k - 1, by omega⟩
    rw [buddy_Orders.l0, if_neg (by omega)]
    exact ⟨cs, rfl, hc.cut (by omega)⟩
  | succ d ih =>
    intro k a cs ha hd hb hc hk
    obtain ⟨k, rfl⟩ : ∃ m, k = m + 1 := ⟨k - 1, by omega⟩
    rw [buddy_Orders.l0]
    by_cases h : a < n
    · obtain ⟨r, h1, h2⟩ := part_f l hl hm n hn k (by omega) 6 (by omega) a cs ha (.inl rfl) (by omega) hc
      have w : wrap64 ((a : Int) + 64) = ((a + 64 : Nat) : Int) := by rw [wrap_id (by omega) (by omega)]; rfl
      rw [if_pos (by omega), h1, Option.bind_some, w]
      exact ih k (a + 64) r (by omega) (by omega) (by omega) h2 (by omega)
    · rw [if_neg (by omega)]
      exact ⟨cs, rfl, hc.cut (by omega)⟩
theorem shl2w (o : Nat) (h : o ≤ 6) : shl .i64 2 (o : Int) = ((2 ^ (o + 1) : Nat) : Int) := by
  have : o = 0 ∨ o = 1 ∨ o = 2 ∨ o = 3 ∨ o = 4 ∨ o = 5 ∨ o = 6 := by omega
  rcases this with h | h | h | h | h | h | h <;> rw [h] <;> rfl
theorem refOrd_l1 (l : List Int) (hl : X.u8all l = true) (hm : l.length ≤ 140737488351232) (n : Nat) (hn : n ≤ 8 * l.length) (o : Nat) (ho : o ≤ 6) (d : Nat) : ∀ (k a : Nat) (cs : List Int), a % 2 ^ o = 0 → n ≤ a + d → a ≤ n + 64 → cs.length = 7 → rd cs (o : Int) = ((cntP (maxB l n o) 0 a : Nat) : Int) → 8 * l.length + 3 + d < k →
    ∃ k' cs', undercroftref08_Orders.l1 k l (n : Int) cs (o : Int) (a : Int) = undercroftref08_Orders.l0 k' l (n : Int) cs' ((o + 1 : Nat) : Int) ∧ k ≤ k' + (d + 1) ∧ cs'.length = 7 ∧ rd cs' (o : Int) = ((cntP (maxB l n o) 0 n : Nat) : Int) ∧ ∀ j : Nat, j ≠ o → rd cs' (j : Int) = rd cs (j : Int) := by
  have hp := pow6 o ho
  have out : ∀ (k a : Nat) (cs : List Int) (d : Nat), n ≤ a → cs.length = 7 → rd cs (o : Int) = ((cntP (maxB l n o) 0 a : Nat) : Int) → 0 < k →
      ∃ k' cs', undercroftref08_Orders.l1 k l (n : Int) cs (o : Int) (a : Int) = undercroftref08_Orders.l0 k' l (n : Int) cs' ((o + 1 : Nat) : Int) ∧ k ≤ k' + (d + 1) ∧ cs'.length = 7 ∧ rd cs' (o : Int) = ((cntP (maxB l n o) 0 n : Nat) : Int) ∧ ∀ j : Nat, j ≠ o → rd cs' (j : Int) = rd cs (j : Int) := by
    intro k a cs d h hc hr hk
    obtain ⟨k, rfl⟩ : ∃ m, k = m + 1 := ⟨k - 1, by omega⟩
    have w1 : wrap64 ((o : Int) + 1) = ((o + 1 : Nat) : Int) := by rw [wrap_id (by omega) (by omega)]; rfl
    rw [undercroftref08_Orders.l1, if_neg (by omega), w1]
    clear w1
    refine ⟨k, cs, rfl, by omega, hc, ?_, fun _ _ => rfl⟩
    have := cnt_step l n o n (a - n)
    rw [show n + (a - n) = a from by omega, cnt_far (Nat.le_refl _)] at this
    rw [hr, this]
    rfl
  induction d with
  | zero => exact fun k a cs ha hd hb hc hr hk => out k a cs 0 (by omega) hc hr (by omega)
  | succ d ih =>
    intro k a cs ha hd hb hc hr hk
    by_cases h : a < n
    rotate_left
    · exact out k a cs (d + 1) (by omega) hc hr (by omega)
    obtain ⟨k, rfl⟩ : ∃ m, k = m + 1 := ⟨k - 1, by omega⟩
    have ho0 : (0 : Int) ≤ (o : Int) := by omega
    have hS : 2 ^ (o + 1) = 2 ^ o + 2 ^ o := by rw [Nat.pow_succ, Nat.mul_two]
    have hf := reffree_f l hl (by omega) n hn a o ho (by omega) k (by omega)
    rw [decide_eq_true ha, Bool.true_and] at hf
    have hst := cnt_stride (l := l) (n := n) ha
    have hcs := cnt_step l n o a (2 ^ o)
    have hle := X.cntP_le (maxB l n o) 0 a
    -- the count goes up
    have yes : maxB l n o a = true → ∃ k' cs', undercroftref08_Orders.l1 k l (n : Int) (cs.set (o : Int).toNat (wrap64 (rd cs (o : Int) + 1))) (o : Int) ((a + 2 ^ o : Nat) : Int) = undercroftref08_Orders.l0 k' l (n : Int) cs' ((o + 1 : Nat) : Int) ∧ k + 1 ≤ k' + (d + 1 + 1) ∧ cs'.length = 7 ∧ rd cs' (o : Int) = ((cntP (maxB l n o) 0 n : Nat) : Int) ∧ ∀ j : Nat, j ≠ o → rd cs' (j : Int) = rd cs (j : Int) := by
      intro hM
      rw [hM] at hst
      have w : wrap64 (rd cs (o : Int) + 1) = ((cntP (maxB l n o) 0 (a + 2 ^ o) : Nat) : Int) := by
        rw [hr, wrap_id (by omega) (by omega), hcs, hst]
        rfl
      rw [w, Int.toNat_natCast]
      obtain ⟨k', cs', e1, e2, e3, e4, e5⟩ := ih k (a + 2 ^ o) (cs.set o ((cntP (maxB l n o) 0 (a + 2 ^ o) : Nat) : Int)) (mult_add ha) (by omega) (by omega) (by rw [List.length_set]; exact hc) (by rw [rd_put _ _ _ _ (by omega), if_pos rfl]) (by omega)
      exact ⟨k', cs', e1, by omega, e3, e4, fun j hj => by rw [e5 j hj, rd_put _ _ _ _ (by omega), if_neg hj]⟩
    have no : maxB l n o a = false → ∃ k' cs', undercroftref08_Orders.l1 k l (n : Int) cs (o : Int) ((a + 2 ^ o : Nat) : Int) = undercroftref08_Orders.l0 k' l (n : Int) cs' ((o + 1 : Nat) : Int) ∧ k + 1 ≤ k' + (d + 1 + 1) ∧ cs'.length = 7 ∧ rd cs' (o : Int) = ((cntP (maxB l n o) 0 n : Nat) : Int) ∧ ∀ j : Nat, j ≠ o → rd cs' (j : Int) = rd cs (j : Int) := by
      intro hM
      rw [hM] at hst
      obtain ⟨k', cs', e1, e2, e3, e4, e5⟩ := ih k (a + 2 ^ o) cs (mult_add ha) (by omega) (by omega) hc (by rw [hcs, hst, hr]; rfl) (by omega)
      exact ⟨k', cs', e1, by omega, e3, e4, e5⟩
    have hlt : (a : Int) < (n : Int) := by omega
    have hne : ¬ ((2 ^ (o + 1) : Nat) : Int) = 0 := by omega
    have hg6 : o ≠ 6 → undercroftref08_free.f k l (n : Int) ((a - a % 2 ^ (o + 1) : Nat) : Int) ((o + 1 : Nat) : Int) = some (freeB l n (a - a % 2 ^ (o + 1)) (o + 1)) := fun h6 => by
      have hg := reffree_f l hl (by omega) n hn (a - a % 2 ^ (o + 1)) (o + 1) (by omega) (Nat.le_trans (Nat.sub_le _ _) (by omega)) k (by omega)
      rwa [decide_eq_true (down_mod _ _), Bool.true_and] at hg
    have w2 : wrap64 ((a : Int) + ((2 ^ o : Nat) : Int)) = ((a + 2 ^ o : Nat) : Int) := by rw [wrap_id (by omega) (by omega)]; rfl
    have hmod : Int.tmod (a : Int) ((2 ^ (o + 1) : Nat) : Int) = ((a % 2 ^ (o + 1) : Nat) : Int) := rfl
    have w3 : wrap64 ((a : Int) - ((a % 2 ^ (o + 1) : Nat) : Int)) = ((a - a % 2 ^ (o + 1) : Nat) : Int) := by
      have hml := Nat.mod_le a (2 ^ (o + 1))
      clear w2 hmod
      generalize a % 2 ^ (o + 1) = m at hml ⊢
      rw [wrap_id (by omega) (by omega)]
      omega
    have w1 : wrap64 ((o : Int) + 1) = ((o + 1 : Nat) : Int) := by rw [wrap_id (by omega) (by omega)]; rfl
    rw [undercroftref08_Orders.l1, if_pos hlt, if_pos ho0, shl2w o ho, if_neg hne, hf, Option.bind_some, shlw o ho, w1, w2, hmod, w3]
    clear w1 w2 w3 hmod
    cases hfb : freeB l n a o
    · rw [if_neg (by decide)]
      exact no (maxB_no hfb)
    · rw [if_pos rfl]
      by_cases h6 : o = 6
      · rw [if_pos (by omega), if_pos (by omega)]
        exact yes (by rw [maxB_top ha (.inl h6)]; exact hfb)
      · rw [if_neg (by omega), hg6 h6, Option.bind_some]
        cases hub : freeB l n (a - a % 2 ^ (o + 1)) (o + 1)
        · rw [if_neg (by decide), if_pos (by omega)]
          exact yes (by rw [maxB_top ha (.inr hub)]; exact hfb)
        · rw [if_pos rfl]
          refine no ?_
          unfold maxB
          rw [hub, decide_eq_false h6]
          simp
theorem refOrd_l0 (l : List Int) (hl : X.u8all l = true) (hm : l.length ≤ 140737488351232) (n : Nat) (hn : n ≤ 8 * l.length) (e : Nat) : ∀ (k o : Nat) (cs : List Int), o + e = 7 → cs.length = 7 → (∀ j : Nat, j < o → rd cs (j : Int) = ((cntP (maxB l n j) 0 n : Nat) : Int)) → (∀ j : Nat, o ≤ j → j ≤ 6 → rd cs (j : Int) = 0) → e * (n + 2) + 8 * l.length + 10 + n < k →
    ∃ r, undercroftref08_Orders.l0 k l (n : Int) cs (o : Int) = some (r, 0) ∧ Cnt l n r n := by
  induction e with
  | zero =>
    intro k o cs ho hc h1 h2 hk
    obtain ⟨k, rfl⟩ : ∃ m, k = m + 1 := ⟨k - 1, by omega⟩
    rw [undercroftref08_Orders.l0, if_neg (by omega)]
    exact ⟨cs, rfl, hc, fun j hj => h1 j (by omega)⟩
  | succ e ih =>
    intro k o cs ho hc h1 h2 hk
    obtain ⟨k, rfl⟩ : ∃ m, k = m + 1 := ⟨k - 1, by omega⟩
    rw [Nat.add_mul, Nat.one_mul] at hk
    rw [undercroftref08_Orders.l0, if_pos (by omega)]
    obtain ⟨k', cs', e1, e2, e3, e4, e5⟩ := refOrd_l1 l hl hm n hn o (by omega) n k 0 cs (Nat.zero_mod _) (by omega) (by omega) hc (h2 o (Nat.le_refl _) (by omega)) (by omega)
    have e1' : undercroftref08_Orders.l1 k l (n : Int) cs (o : Int) 0 = undercroftref08_Orders.l0 k' l (n : Int) cs' ((o + 1 : Nat) : Int) := e1
    rw [e1']
    refine ih k' (o + 1) cs' (by omega) e3 (fun j hj => ?_) (fun j h3 h4 => ?_) (by omega)
    · by_cases h3 : j = o
      · rw [h3]
        exact e4
      · rw [e5 j h3]
        exact h1 j (by omega)
    · rw [e5 j (by omega)]
      exact h2 j (by omega) h4
theorem orders_both (l : List Int) (hl : X.u8all l = true) (hm : l.length ≤ 140737488351232) (n : Int) (k : Nat) (hk : 80 * l.length + 100 < k) :
    (¬ (0 ≤ n ∧ n ≤ 8 * (l.length : Int)) ∧ buddy_Orders.f k l n = some ([], 1) ∧ undercroftref08_Orders.f k l n = some ([], 1)) ∨
    ((0 ≤ n ∧ n ≤ 8 * (l.length : Int)) ∧ ∃ r, buddy_Orders.f k l n = some (r, 0) ∧ undercroftref08_Orders.f k l n = some (r, 0) ∧ Cnt l n.toNat r n.toNat) := by
  unfold buddy_Orders.f undercroftref08_Orders.f
  rw [refpool l (by omega), Option.bind_some, wrap8 l (by omega)]
  by_cases hp : 0 ≤ n ∧ n ≤ 8 * (l.length : Int)
  · right
    refine ⟨hp, ?_⟩
    obtain ⟨N, rfl⟩ : ∃ N : Nat, n = (N : Int) := ⟨n.toNat, by omega⟩
    have z : ∀ j : Nat, j ≤ 6 → rd (List.replicate 7 0) (j : Int) = 0 := by
      intro j hj
      have : ∀ i : Fin 7, rd (List.replicate 7 0) (i.val : Int) = 0 := by decide
      exact this ⟨j, by omega⟩
    obtain ⟨r, h1, h2⟩ := orders_l0 l hl hm N (by omega) N k 0 (List.replicate 7 0) (by decide) (by omega) (by omega) ⟨rfl, fun j hj => by rw [z j hj]; rfl⟩ (by omega)
    obtain ⟨r', h3, h4⟩ := refOrd_l0 l hl hm N (by omega) 7 k 0 (List.replicate 7 0) (by omega) rfl (fun j hj => absurd hj (Nat.not_lt_zero _)) (fun j _ hj => z j hj) (by omega)
    replace h1 : buddy_Orders.l0 k l (N : Int) 0 (List.replicate 7 0) = some r := h1
    replace h3 : undercroftref08_Orders.l0 k l (N : Int) (List.replicate 7 0) 0 = some (r', 0) := h3
    have := h2.uniq h4
    subst this
    rw [decide_eq_true hp, if_neg (by omega), if_neg (by omega), if_pos (by omega), h1, if_pos rfl, if_pos (by decide), h3, Option.bind_some, Int.toNat_natCast]
    exact ⟨r, rfl, rfl, h2⟩
  · left
    rw [decide_eq_false hp]
    refine ⟨hp, ?_, rfl⟩
    by_cases h : n < 0
    · rw [if_pos h]
    · rw [if_neg h, if_pos (by omega)]
end Go.Proofs.Ytlhpejdbmbpmhaa.Pure
