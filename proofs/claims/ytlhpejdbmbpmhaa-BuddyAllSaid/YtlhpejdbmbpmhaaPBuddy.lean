/- What is free: chunks told by the bits; the first one from a goal on. -/
import Derived.Test.YtlhpejdbmbpmhaaUx3
import Derived.Test.YtlhpejdbmbpmhaaUx4
import Derived.Test.YtlhpejdbmbpmhaaUx10
import Derived.Test.YtlhpejdbmbpmhaaUx11
import Derived.Test.YtlhpejdbmbpmhaaPBits2
namespace Go.Proofs.Ytlhpejdbmbpmhaa.Pure
open Go Go.RowKit Go.Proofs.Ytlhpejdbmbpmhaa.U Go.Proofs.YtlhpejdbmbpmhaaW.PrintWords Go.Proofs.YtlhpejdbmbpmhaaW.PrintLast Go.Proofs.YtlhpejdbmbpmhaaW.PrintMore
set_option linter.unusedVariables false
set_option linter.unusedSimpArgs false
open X (cntP firP)
/-- The chunk of order o at c is free. -/
def freeB (l : List Int) (n c o : Nat) : Bool := decide (c + 2 ^ o ≤ n) && (cntP (bitN l) c (2 ^ o) == 0)
theorem shlw (o : Nat) (h : o ≤ 6) : shl .i64 1 (o : Int) = ((2 ^ o : Nat) : Int) := by
  have : o = 0 ∨ o = 1 ∨ o = 2 ∨ o = 3 ∨ o = 4 ∨ o = 5 ∨ o = 6 := by omega
  rcases this with h | h | h | h | h | h | h <;> rw [h] <;> rfl
theorem pow6 (o : Nat) (h : o ≤ 6) : 1 ≤ 2 ^ o ∧ 2 ^ o ≤ 64 := ⟨Nat.one_le_two_pow, Nat.pow_le_pow_right (n := 2) (by decide) h⟩
theorem freeB_le {l : List Int} {n c o : Nat} (h : freeB l n c o = true) : c + 2 ^ o ≤ n := by
  unfold freeB at h
  rw [Bool.and_eq_true] at h
  exact of_decide_eq_true h.1
theorem freeB_no {l : List Int} {n c o : Nat} (h : ¬ c + 2 ^ o ≤ n) : freeB l n c o = false := by
  unfold freeB
  rw [decide_eq_false h, Bool.false_and]
theorem freeB_iff {l : List Int} {n c o : Nat} : freeB l n c o = true ↔ c + 2 ^ o ≤ n ∧ ∀ i, c ≤ i → i < c + 2 ^ o → bitN l i = false := by
  unfold freeB
  rw [Bool.and_eq_true, decide_eq_true_eq, beq_iff_eq, X.cntP_zero]
theorem poolfree_f (l : List Int) (hl : X.u8all l = true) (hm : l.length ≤ 140737488355328) (n : Nat) (hn : n ≤ 8 * l.length) (c o : Nat) (ho : o ≤ 6) (hc : c ≤ 2251799813685248) (k : Nat) (hk : 8 * l.length + 1 < k) :
    buddy_pool_free.f k l (n : Int) (c : Int) (o : Int) = some (freeB l n c o) := by
  have hp := pow6 o ho
  unfold buddy_pool_free.f
  rw [if_pos (by omega), shlw o ho]
  obtain ⟨S, hS⟩ : ∃ S, S = 2 ^ o := ⟨_, rfl⟩
  unfold freeB
  rw [← hS] at hp ⊢
  have w : wrap64 ((c : Int) + (S : Int)) = ((c + S : Nat) : Int) := by rw [wrap_id (by omega) (by omega)]; rfl
  rw [w]
  clear w
  by_cases h : c + S ≤ n
  · rw [if_pos (by omega), first_f l hl hm (c : Int) ((c + S : Nat) : Int) true k hk, Option.bind_some, loN_nat, hiN_nat (by omega), decide_eq_true h, Bool.true_and, show c + S - c = S from by omega]
    congr 1
    by_cases hz : cntP (bitN l) c S = 0
    · rw [hz, X.firP_none.2 (fun i h1 h2 => by rw [X.cntP_zero.1 hz i h1 h2]; rfl)]
      rfl
    · cases hf : firP (fun i => bitN l i == true) c S with
      | none => exact absurd (X.cntP_zero.2 (fun i h1 h2 => by have := X.firP_none.1 hf i h1 h2; simpa using this)) hz
      | some i =>
        have e1 : decide (firI (some i) < 0) = false := decide_eq_false (by unfold firI; simp)
        rw [e1]
        exact (beq_eq_false_iff_ne.2 hz).symm
  · rw [if_neg (by omega), decide_eq_false h, Bool.false_and]
theorem reffree_f (l : List Int) (hl : X.u8all l = true) (hm : l.length ≤ 140737488355328) (n : Nat) (hn : n ≤ 8 * l.length) (c o : Nat) (ho : o ≤ 6) (hc : c ≤ 2251799813685248) (k : Nat) (hk : 8 * l.length + 1 < k) :
    undercroftref08_free.f k l (n : Int) (c : Int) (o : Int) = some (decide (c % 2 ^ o = 0) && freeB l n c o) := by
  have hp := pow6 o ho
  unfold undercroftref08_free.f
  rw [if_pos (by omega), if_neg (by omega), shlw o ho]
  unfold freeB
  obtain ⟨S, hS⟩ : ∃ S, S = 2 ^ o := ⟨_, rfl⟩
  rw [← hS] at hp ⊢
  have hmod : Int.tmod (c : Int) (S : Int) = ((c % S : Nat) : Int) := rfl
  have w1 : wrap64 ((n : Int) - (S : Int)) = (n : Int) - (S : Int) := wrap_id (by omega) (by omega)
  have w2 : wrap64 ((c : Int) + (S : Int)) = ((c + S : Nat) : Int) := by rw [wrap_id (by omega) (by omega)]; rfl
  rw [if_neg (by omega), hmod, w1, w2]
  clear w1 w2 hmod
  by_cases h1 : c % S = 0
  · rw [if_pos (by omega), decide_eq_true h1, Bool.true_and]
    by_cases h : c + S ≤ n
    · rw [if_neg (by omega), refCount_f l hl hm (c : Int) ((c + S : Nat) : Int) k hk, Option.bind_some, loN_nat, hiN_nat (by omega), decide_eq_true h, Bool.true_and, show c + S - c = S from by omega]
      congr 1
      rw [Bool.eq_iff_iff, beq_iff_eq, beq_iff_eq]
      omega
    · rw [if_pos (by omega), decide_eq_false h, Bool.false_and]
  · rw [if_neg (by omega), decide_eq_false h1, Bool.false_and]
/-- r is the first free chunk of order o from g on; -1: none. -/
def IsFrom (l : List Int) (n o g : Nat) (r : Int) : Prop :=
  (r = -1 ∧ ∀ c, c % 2 ^ o = 0 → g ≤ c → freeB l n c o = false) ∨ ∃ c : Nat, r = (c : Int) ∧ c % 2 ^ o = 0 ∧ g ≤ c ∧ freeB l n c o = true ∧ ∀ c', c' % 2 ^ o = 0 → g ≤ c' → c' < c → freeB l n c' o = false
theorem IsFrom.uniq {l : List Int} {n o g : Nat} {r r' : Int} (h : IsFrom l n o g r) (h' : IsFrom l n o g r') : r = r' := by
  rcases h with ⟨h1, h2⟩ | ⟨c, h1, h2, h3, h4, h5⟩ <;> rcases h' with ⟨h1', h2'⟩ | ⟨c', h1', h2', h3', h4', h5'⟩
  · rw [h1, h1']
  · rw [h2 c' h2' h3'] at h4'
    cases h4'
  · rw [h2' c h2 h3] at h4
    cases h4
  · rcases Nat.lt_trichotomy c c' with h6 | h6 | h6
    · rw [h5' c h2 h3 h6] at h4
      cases h4
    · rw [h1, h1', h6]
    · rw [h5 c' h2' h3' h6] at h4'
      cases h4'
theorem andNot_pow (x o : Nat) (hx : x ≤ 4503599627370496) (ho : o ≤ 6) : Go.bits .andNot .i64 (x : Int) (((2 ^ o : Nat) : Int) - 1) = ((x / 2 ^ o * 2 ^ o : Nat) : Int) := by
  have hp := pow6 o ho
  have e1 : (((2 ^ o : Nat) : Int) - 1) = ((2 ^ o - 1 : Nat) : Int) := by omega
  rw [e1]
  show IntKind.i64.wrap ((BitVec.ofInt 64 (x : Int) &&& ~~~ (BitVec.ofInt 64 ((2 ^ o - 1 : Nat) : Int))).toNat : Int) = _
  have e2 : (BitVec.ofInt 64 (x : Int) &&& ~~~ (BitVec.ofInt 64 ((2 ^ o - 1 : Nat) : Int))).toNat = x / 2 ^ o * 2 ^ o := by
    apply Nat.eq_of_testBit_eq
    intro i
    have e : ∀ v : BitVec 64, v.toNat.testBit i = v.getLsbD i := fun v => rfl
    rw [e, BitVec.getLsbD_and, BitVec.getLsbD_not, ← e, ← e, BitVec.ofInt_natCast, BitVec.ofInt_natCast, BitVec.toNat_ofNat, BitVec.toNat_ofNat, Nat.mod_eq_of_lt (show x < 2 ^ 64 by omega), Nat.mod_eq_of_lt (show 2 ^ o - 1 < 2 ^ 64 by omega), Nat.testBit_two_pow_sub_one,
      ← Nat.shiftRight_eq_div_pow, ← Nat.shiftLeft_eq, Nat.testBit_shiftLeft, Nat.testBit_shiftRight]
    by_cases h1 : i < 64
    · by_cases h2 : i < o
      · simp [h1, h2, Nat.not_le.2 h2]
      · simp [h1, h2, Nat.not_lt.1 h2, show o + (i - o) = i from by omega]
    · have hz : x.testBit i = false := Nat.testBit_lt_two_pow (Nat.lt_of_lt_of_le (show x < 2 ^ 64 by omega) (Nat.pow_le_pow_right (by decide) (by omega)))
      by_cases h2 : i < o
      · omega
      · simp [h1, hz, show o + (i - o) = i from by omega]
  rw [e2, X.i64_wrap]
  · have : 0 ≤ x / 2 ^ o * 2 ^ o := Nat.zero_le _
    omega
  · have : x / 2 ^ o * 2 ^ o ≤ x := Nat.div_mul_le_self _ _
    omega
theorem mult_next {S c c' : Nat} (hS : 1 ≤ S) (hc : c % S = 0) (hc' : c' % S = 0) (h1 : c ≤ c') (h2 : c' < c + S) : c' = c := by
  obtain ⟨q, rfl⟩ := Nat.dvd_of_mod_eq_zero hc
  obtain ⟨q', rfl⟩ := Nat.dvd_of_mod_eq_zero hc'
  have h3 : q ≤ q' := Nat.le_of_mul_le_mul_left h1 hS
  have h4 : q' < q + 1 := Nat.lt_of_mul_lt_mul_left (a := S) (by rw [Nat.mul_add, Nat.mul_one]; exact h2)
  rw [show q' = q from by omega]
theorem mult_add {S c : Nat} (hc : c % S = 0) : (c + S) % S = 0 := by rw [Nat.add_mod_right]; exact hc
theorem IsFrom.step {l : List Int} {n o c : Nat} {r : Int} (hc : c % 2 ^ o = 0) (hf : freeB l n c o = false) (h : IsFrom l n o (c + 2 ^ o) r) : IsFrom l n o c r := by
  have hp : 1 ≤ 2 ^ o := Nat.one_le_two_pow
  have key : ∀ c', c' % 2 ^ o = 0 → c ≤ c' → ¬ c + 2 ^ o ≤ c' → freeB l n c' o = false := fun c' h1 h2 h3 => by rw [mult_next hp hc h1 h2 (by omega)]; exact hf
  rcases h with ⟨h1, h2⟩ | ⟨d, h1, h2, h3, h4, h5⟩
  · refine .inl ⟨h1, fun c' h3 h4 => ?_⟩
    by_cases h5 : c + 2 ^ o ≤ c'
    · exact h2 c' h3 h5
    · exact key c' h3 h4 h5
  · refine .inr ⟨d, h1, h2, by omega, h4, fun c' h6 h7 h8 => ?_⟩
    by_cases h9 : c + 2 ^ o ≤ c'
    · exact h5 c' h6 h9 h8
    · exact key c' h6 h7 h9
theorem from_l0 (l : List Int) (hl : X.u8all l = true) (hm : l.length ≤ 140737488355328) (n : Nat) (hn : n ≤ 8 * l.length) (o : Nat) (ho : o ≤ 6) (d : Nat) : ∀ (k c : Nat), c % 2 ^ o = 0 → n < c + d → c ≤ n + 128 → 8 * l.length + 2 + d < k →
    ∃ r, buddy_pool_from.l0 k (o : Int) ((2 ^ o : Nat) : Int) (c : Int) l (n : Int) = some r ∧ IsFrom l n o c r := by
  have hp := pow6 o ho
  induction d with
  | zero =>
    intro k c hc hd hcn hk
    obtain ⟨k, rfl⟩ : ∃ m, k = m + 1 := ⟨k - 1, by omega⟩
    have w1 : wrap64 ((n : Int) - ((2 ^ o : Nat) : Int)) = (n : Int) - ((2 ^ o : Nat) : Int) := wrap_id (by omega) (by omega)
    rw [buddy_pool_from.l0, w1, if_neg (by omega)]
    exact ⟨-1, rfl, .inl ⟨rfl, fun c' _ h => freeB_no (by omega)⟩⟩
  | succ d ih =>
    intro k c hc hd hcn hk
    obtain ⟨k, rfl⟩ : ∃ m, k = m + 1 := ⟨k - 1, by omega⟩
    have w1 : wrap64 ((n : Int) - ((2 ^ o : Nat) : Int)) = (n : Int) - ((2 ^ o : Nat) : Int) := wrap_id (by omega) (by omega)
    have w2 : wrap64 ((c : Int) + ((2 ^ o : Nat) : Int)) = ((c + 2 ^ o : Nat) : Int) := by rw [wrap_id (by omega) (by omega)]; rfl
    rw [buddy_pool_from.l0, w1, w2]
    clear w1 w2
    by_cases h : c + 2 ^ o ≤ n
    · rw [if_pos (by omega), poolfree_f l hl hm n hn c o ho (by omega) k (by omega), Option.bind_some]
      cases hf : freeB l n c o
      · rw [if_neg (by decide)]
        obtain ⟨r, h1, h2⟩ := ih k (c + 2 ^ o) (mult_add hc) (by omega) (by omega) (by omega)
        exact ⟨r, h1, h2.step hc hf⟩
      · rw [if_pos rfl]
        exact ⟨_, rfl, .inr ⟨c, rfl, hc, Nat.le_refl _, hf, fun c' _ h1 h2 => by omega⟩⟩
    · rw [if_neg (by omega)]
      exact ⟨-1, rfl, .inl ⟨rfl, fun c' _ h => freeB_no (by omega)⟩⟩
theorem up_spec (g S : Nat) (hS : 1 ≤ S) : (g + S - 1) / S * S % S = 0 ∧ g ≤ (g + S - 1) / S * S ∧ (g + S - 1) / S * S ≤ g + S - 1 := by
  refine ⟨Nat.mul_mod_left _ _, ?_, Nat.div_mul_le_self _ _⟩
  have h1 := Nat.div_add_mod (g + S - 1) S
  have h2 := Nat.mod_lt (g + S - 1) hS
  rw [Nat.mul_comm] at h1
  omega
theorem IsFrom.up {l : List Int} {n o g : Nat} {r : Int} (h : IsFrom l n o ((g + 2 ^ o - 1) / 2 ^ o * 2 ^ o) r) : IsFrom l n o g r := by
  have hp : 1 ≤ 2 ^ o := Nat.one_le_two_pow
  obtain ⟨h1, h2, h3⟩ := up_spec g (2 ^ o) hp
  obtain ⟨A, hA⟩ : ∃ A, A = (g + 2 ^ o - 1) / 2 ^ o * 2 ^ o := ⟨_, rfl⟩
  rw [← hA] at h h1 h2 h3
  have key : ∀ c', c' % 2 ^ o = 0 → g ≤ c' → A ≤ c' := by
    intro c' h4 h5
    rcases Nat.lt_or_ge c' A with h6 | h6
    · have := mult_next hp h4 h1 (by omega) (by omega)
      omega
    · exact h6
  rcases h with ⟨e1, e2⟩ | ⟨d, e1, e2, e3, e4, e5⟩
  · exact .inl ⟨e1, fun c' h4 h5 => e2 c' h4 (key c' h4 h5)⟩
  · exact .inr ⟨d, e1, e2, by omega, e4, fun c' h4 h5 h6 => e5 c' h4 (key c' h4 h5) h6⟩
theorem from_f (l : List Int) (hl : X.u8all l = true) (hm : l.length ≤ 140737488355328) (n : Nat) (hn : n ≤ 8 * l.length) (o : Nat) (ho : o ≤ 6) (g : Nat) (hg : g ≤ n) (k : Nat) (hk : 16 * l.length + 140 < k) :
    ∃ r, buddy_pool_from.f k l (n : Int) (g : Int) (o : Int) = some r ∧ IsFrom l n o g r := by
  have hp := pow6 o ho
  unfold buddy_pool_from.f
  have w1 : wrap64 ((g : Int) + ((2 ^ o : Nat) : Int)) = ((g + 2 ^ o : Nat) : Int) := by rw [wrap_id (by omega) (by omega)]; rfl
  have w2 : wrap64 (((g + 2 ^ o : Nat) : Int) - 1) = ((g + 2 ^ o - 1 : Nat) : Int) := by rw [wrap_id (by omega) (by omega)]; omega
  have w3 : wrap64 (((2 ^ o : Nat) : Int) - 1) = ((2 ^ o : Nat) : Int) - 1 := wrap_id (by omega) (by omega)
  rw [if_pos (by omega), shlw o ho, w1, w2, w3, andNot_pow _ o (by omega) ho]
  clear w1 w2 w3
  obtain ⟨h1, h2, h3⟩ := up_spec g (2 ^ o) hp.1
  obtain ⟨r, h4, h5⟩ := from_l0 l hl hm n hn o ho (n + 1) k _ h1 (by omega) (by omega) (by omega)
  exact ⟨r, h4, h5.up⟩
/-- The first free chunk from g on; if there is none, the first one of all; -1: none. -/
def IsFind (l : List Int) (n o g : Nat) (r : Int) : Prop := (IsFrom l n o g r ∧ 0 ≤ r) ∨ (IsFrom l n o g (-1) ∧ IsFrom l n o 0 r)
theorem IsFrom.none_ {l : List Int} {n o g : Nat} (h : IsFrom l n o g (-1)) : ∀ c, c % 2 ^ o = 0 → g ≤ c → freeB l n c o = false := by
  rcases h with ⟨_, h⟩ | ⟨c, h, _⟩
  · exact h
  · omega
theorem find_l0 (l : List Int) (hl : X.u8all l = true) (hm : l.length ≤ 140737488355328) (n : Nat) (hn : n ≤ 8 * l.length) (o : Nat) (ho : o ≤ 6) (g : Nat) (d : Nat) : ∀ (k c : Nat) (x : Int), c % 2 ^ o = 0 → n ≤ c + d → c ≤ n + 64 →
    (∀ c', c' % 2 ^ o = 0 → c' < c → freeB l n c' o = true → c' < g) →
    ((x = -1 ∧ ∀ c', c' % 2 ^ o = 0 → c' < c → freeB l n c' o = false) ∨ ∃ c0 : Nat, x = (c0 : Int) ∧ c0 % 2 ^ o = 0 ∧ c0 < c ∧ freeB l n c0 o = true ∧ ∀ c', c' % 2 ^ o = 0 → c' < c0 → freeB l n c' o = false) →
    8 * l.length + 2 + d < k → ∃ r, undercroftref08_find.l0 k l (n : Int) (o : Int) (g : Int) x (c : Int) = some r ∧ IsFind l n o g r := by
  have hp := pow6 o ho
  have fin : ∀ (c : Nat) (x : Int), n ≤ c → (∀ c', c' % 2 ^ o = 0 → c' < c → freeB l n c' o = true → c' < g) →
      ((x = -1 ∧ ∀ c', c' % 2 ^ o = 0 → c' < c → freeB l n c' o = false) ∨ ∃ c0 : Nat, x = (c0 : Int) ∧ c0 % 2 ^ o = 0 ∧ c0 < c ∧ freeB l n c0 o = true ∧ ∀ c', c' % 2 ^ o = 0 → c' < c0 → freeB l n c' o = false) → IsFind l n o g x := by
    intro c x hnc hA hB
    refine .inr ⟨.inl ⟨rfl, fun c' h1 h2 => ?_⟩, ?_⟩
    · by_cases h3 : c' < c
      · cases hf : freeB l n c' o
        · rfl
        · have := hA c' h1 h3 hf
          omega
      · exact freeB_no (by omega)
    · rcases hB with ⟨h1, h2⟩ | ⟨c0, h1, h2, h3, h4, h5⟩
      · refine .inl ⟨h1, fun c' h3 _ => ?_⟩
        by_cases h4 : c' < c
        · exact h2 c' h3 h4
        · exact freeB_no (by omega)
      · exact .inr ⟨c0, h1, h2, Nat.zero_le _, h4, fun c' h6 _ h7 => h5 c' h6 h7⟩
  induction d with
  | zero =>
    intro k c x hc hd hcn hA hB hk
    obtain ⟨k, rfl⟩ : ∃ m, k = m + 1 := ⟨k - 1, by omega⟩
    rw [undercroftref08_find.l0, if_neg (by omega)]
    exact ⟨x, rfl, fin c x (by omega) hA hB⟩
  | succ d ih =>
    intro k c x hc hd hcn hA hB hk
    obtain ⟨k, rfl⟩ : ∃ m, k = m + 1 := ⟨k - 1, by omega⟩
    by_cases h : c < n
    rotate_left
    · rw [undercroftref08_find.l0, if_neg (by omega)]
      exact ⟨x, rfl, fin c x (by omega) hA hB⟩
    have w2 : wrap64 ((c : Int) + ((2 ^ o : Nat) : Int)) = ((c + 2 ^ o : Nat) : Int) := by rw [wrap_id (by omega) (by omega)]; rfl
    rw [undercroftref08_find.l0, if_pos (by omega), reffree_f l hl hm n hn c o ho (by omega) k (by omega), Option.bind_some, decide_eq_true hc, Bool.true_and, shlw o ho, w2]
    clear w2
    have ho0 : (0 : Int) ≤ (o : Int) := by omega
    have old : ∀ c', c' % 2 ^ o = 0 → c' < c + 2 ^ o → c' < c ∨ c' = c := fun c' h1 h2 => by
      by_cases h3 : c' < c
      · exact .inl h3
      · exact .inr (mult_next hp.1 hc h1 (by omega) h2)
    cases hf : freeB l n c o
    · rw [if_neg (by decide), if_pos ho0]
      refine ih k (c + 2 ^ o) x (mult_add hc) (by omega) (by omega) (fun c' h1 h2 h3 => ?_) ?_ (by omega)
      · rcases old c' h1 h2 with h4 | h4
        · exact hA c' h1 h4 h3
        · rw [h4, hf] at h3
          cases h3
      · rcases hB with ⟨h1, h2⟩ | ⟨c0, h1, h2, h3, h4, h5⟩
        · refine .inl ⟨h1, fun c' h3 h4 => ?_⟩
          rcases old c' h3 h4 with h5 | h5
          · exact h2 c' h3 h5
          · rw [h5]
            exact hf
        · exact .inr ⟨c0, h1, h2, by omega, h4, h5⟩
    · rw [if_pos rfl]
      by_cases hg : g ≤ c
      · rw [if_pos (by omega)]
        refine ⟨_, rfl, .inl ⟨.inr ⟨c, rfl, hc, hg, hf, fun c' h1 h2 h3 => ?_⟩, by omega⟩⟩
        cases hf' : freeB l n c' o
        · rfl
        · have := hA c' h1 h3 hf'
          omega
      · rw [if_neg (by omega)]
        have hA' : ∀ c', c' % 2 ^ o = 0 → c' < c + 2 ^ o → freeB l n c' o = true → c' < g := fun c' h1 h2 h3 => by
          rcases old c' h1 h2 with h4 | h4
          · exact hA c' h1 h4 h3
          · omega
        rcases hB with ⟨h1, h2⟩ | ⟨c0, h1, h2, h3, h4, h5⟩
        · rw [if_pos (by omega), if_pos ho0]
          exact ih k (c + 2 ^ o) (c : Int) (mult_add hc) (by omega) (by omega) hA' (.inr ⟨c, rfl, hc, by omega, hf, h2⟩) (by omega)
        · rw [if_neg (by omega), if_pos ho0]
          exact ih k (c + 2 ^ o) x (mult_add hc) (by omega) (by omega) hA' (.inr ⟨c0, h1, h2, by omega, h4, h5⟩) (by omega)
theorem find_f (l : List Int) (hl : X.u8all l = true) (hm : l.length ≤ 140737488355328) (n : Nat) (hn : n ≤ 8 * l.length) (o : Nat) (ho : o ≤ 6) (g : Nat) (k : Nat) (hk : 16 * l.length + 140 < k) :
    ∃ r, undercroftref08_find.f k l (n : Int) (o : Int) (g : Int) = some r ∧ IsFind l n o g r := by
  unfold undercroftref08_find.f
  exact find_l0 l hl hm n hn o ho g n k 0 (-1) (Nat.zero_mod _) (by omega) (by omega) (fun c' _ h => absurd h (Nat.not_lt_zero _)) (.inl ⟨rfl, fun c' _ h => absurd h (Nat.not_lt_zero _)⟩) (by omega)
end Go.Proofs.Ytlhpejdbmbpmhaa.Pure
