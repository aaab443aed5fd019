/- The longest run: told once, and told so by the program and by the document. -/
import Derived.Test.YtlieacllpifhkaaUx3
import Derived.Test.YtlieacllpifhkaaUx6
import Derived.Test.YtlieacllpifhkaaUx7
import Derived.Test.YtlieacllpifhkaaPBits2
namespace Go.Proofs.Ytlieacllpifhkaa.Pure
open Go Go.RowKit Go.Proofs.Ytlieacllpifhkaa.U Go.Proofs.YtlieacllpifhkaaW.PrintWords Go.Proofs.YtlieacllpifhkaaW.PrintLast Go.Proofs.YtlieacllpifhkaaW.PrintMore
set_option linter.unusedVariables false
set_option linter.unusedSimpArgs false
open X (cntP firP)
def Run (l : List Int) (x y : Nat) : Prop := ∀ i, x ≤ i → i < x + y → bitN l i = false
/-- The best run of the bits from lo up to hi. -/
structure BestAt (l : List Int) (lo hi a m : Nat) : Prop where
  pos : 0 < m
  low : lo ≤ a
  high : a + m ≤ hi
  run : Run l a m
  best : ∀ x y, lo ≤ x → 0 < y → x + y ≤ hi → Run l x y → y ≤ m ∧ (y = m → a ≤ x)
def Best (l : List Int) (lo hi : Nat) (at_ n : Int) : Prop := (n = 0 ∧ at_ = -1 ∧ ∀ i, lo ≤ i → i < hi → bitN l i = true) ∨ ∃ a m : Nat, at_ = (a : Int) ∧ n = (m : Int) ∧ BestAt l lo hi a m
theorem Best.uniq {l : List Int} {lo hi : Nat} {a n b m : Int} (h : Best l lo hi a n) (h' : Best l lo hi b m) : a = b ∧ n = m := by
  rcases h with ⟨rfl, rfl, h1⟩ | ⟨a, n, rfl, rfl, h1⟩
  · rcases h' with ⟨rfl, rfl, h2⟩ | ⟨b, m, rfl, rfl, h2⟩
    · exact ⟨rfl, rfl⟩
    · have e1 := h2.pos
      have e2 := h2.low
      have e3 := h2.high
      have e4 := h2.run b (Nat.le_refl _) (by omega)
      rw [h1 b (by omega) (by omega)] at e4
      cases e4
  · rcases h' with ⟨rfl, rfl, h2⟩ | ⟨b, m, rfl, rfl, h2⟩
    · have e1 := h1.pos
      have e2 := h1.low
      have e3 := h1.high
      have e4 := h1.run a (Nat.le_refl _) (by omega)
      rw [h2 a (by omega) (by omega)] at e4
      cases e4
    · have e1 := h1.best b m h2.low h2.pos h2.high h2.run
      have e2 := h2.best a n h1.low h1.pos h1.high h1.run
      have e3 : m = n := by omega
      have e4 := e1.2 e3
      have e5 := e2.2 e3.symm
      omega
theorem Best.nonneg {l : List Int} {lo hi : Nat} {a n : Int} (h : Best l lo hi a n) : 0 ≤ n := by
  rcases h with ⟨rfl, _⟩ | ⟨_, m, _, rfl, _⟩ <;> omega
theorem Best.empty (l : List Int) (lo hi : Nat) (h : hi ≤ lo) : Best l lo hi (-1) 0 := Or.inl ⟨rfl, rfl, fun i h1 h2 => by omega⟩
/-- Nothing more is free. -/
theorem Best.rest {l : List Int} {lo f hi : Nat} {a n : Int} (h : Best l lo f a n) (hf : f ≤ hi) (hs : ∀ i, f ≤ i → i < hi → bitN l i = true) : Best l lo hi a n := by
  rcases h with ⟨rfl, rfl, h1⟩ | ⟨a, m, rfl, rfl, h1⟩
  · exact Or.inl ⟨rfl, rfl, fun i h2 h3 => by
      by_cases h4 : i < f
      · exact h1 i h2 h4
      · exact hs i (by omega) h3⟩
  · refine Or.inr ⟨a, m, rfl, rfl, h1.pos, h1.low, Nat.le_trans h1.high hf, h1.run, fun x y h2 h3 h4 h5 => ?_⟩
    have h6 : x + y ≤ f := by
      rcases Nat.lt_or_ge f (x + y) with h7 | h7
      · exfalso
        have e1 := h5 (x + y - 1) (by omega) (by omega)
        rw [hs (x + y - 1) (by omega) (by omega)] at e1
        cases e1
      · exact h7
    exact h1.best x y h2 h3 h6 h5
/-- A run more, from B up to E. -/
theorem Best.more {l : List Int} {lo f B E : Nat} {a n : Int} (h : Best l lo f a n) (hlo : lo ≤ f) (hfB : f ≤ B) (hBE : B < E) (hset : ∀ i, f ≤ i → i < B → bitN l i = true) (hrun : Run l B (E - B)) (hbd : f = lo ∨ bitN l f = true) :
    Best l lo E (if ((E : Int) - (B : Int)) > n then (B : Int) else a) (if ((E : Int) - (B : Int)) > n then (E : Int) - (B : Int) else n) := by
  have cases_ : ∀ x y, lo ≤ x → 0 < y → x + y ≤ E → Run l x y → x + y ≤ f ∨ B ≤ x := by
    intro x y h2 h3 h4 h5
    rcases Nat.lt_or_ge x f with hx | hx
    · rcases Nat.lt_or_ge f (x + y) with hy | hy
      · rcases hbd with rfl | hb
        · omega
        · have := h5 f (by omega) hy
          rw [hb] at this
          cases this
      · exact Or.inl hy
    · rcases Nat.lt_or_ge x B with hb | hb
      · have := h5 x (Nat.le_refl _) (by omega)
        rw [hset x hx hb] at this
        cases this
      · exact Or.inr hb
  by_cases hgt : ((E : Int) - (B : Int)) > n
  · rw [if_pos hgt, if_pos hgt]
    refine Or.inr ⟨B, E - B, rfl, by omega, by omega, by omega, by omega, hrun, fun x y h2 h3 h4 h5 => ?_⟩
    rcases cases_ x y h2 h3 h4 h5 with h6 | h6
    · rcases h with ⟨rfl, rfl, h1⟩ | ⟨a, m, rfl, rfl, h1⟩
      · have := h5 x (Nat.le_refl _) (by omega)
        rw [h1 x h2 (by omega)] at this
        cases this
      · have := h1.best x y h2 h3 h6 h5
        omega
    · omega
  · rw [if_neg hgt, if_neg hgt]
    rcases h with ⟨rfl, rfl, h1⟩ | ⟨a, m, rfl, rfl, h1⟩
    · omega
    · have e3 := h1.high
      refine Or.inr ⟨a, m, rfl, rfl, h1.pos, h1.low, by omega, h1.run, fun x y h2 h3 h4 h5 => ?_⟩
      rcases cases_ x y h2 h3 h4 h5 with h6 | h6
      · exact h1.best x y h2 h3 h6 h5
      · omega
theorem loN_nat (f : Nat) : loN (f : Int) = f := by unfold loN mx; omega
theorem hiN_nat {l : List Int} {b : Nat} (h : b ≤ 8 * l.length) : hiN l (b : Int) = b := by unfold hiN mn; omega
theorem longest_l0 (l : List Int) (hl : X.u8all l = true) (hm : l.length ≤ 140737488355328) (lo hi : Nat) (hh : hi ≤ 8 * l.length) : ∀ (d k f : Nat) (a n : Int), f + d = hi → lo ≤ f → Best l lo f a n → (f = lo ∨ f = hi ∨ bitN l f = true) → 8 * l.length + 1 + d < k →
    ∃ p q, bits_Longest.l0 k l (f : Int) (hi : Int) a n = some (p, q) ∧ Best l lo hi p q := by
  intro d
  induction d using Nat.strongRecOn with
  | ind d ih =>
    intro k f a n hd hlo hB hbd hk
    obtain ⟨k, rfl⟩ : ∃ m, k = m + 1 := ⟨k - 1, by omega⟩
    rw [bits_Longest.l0]
    by_cases h0 : d = 0
    · subst h0
      obtain rfl : f = hi := by omega
      exact ⟨a, n, by rw [if_neg (by omega)], hB⟩
    · rw [if_pos (by omega), first_f l hl hm (f : Int) (hi : Int) false k (by omega), Option.bind_some, loN_nat, hiN_nat hh]
      cases hF : firP (fun i => bitN l i == false) f (hi - f) with
      | none =>
        refine ⟨a, n, by rw [if_pos (by unfold firI; decide)], hB.rest (by omega) (fun i h1 h2 => ?_)⟩
        have := X.firP_none.1 hF i h1 (by omega)
        cases hb : bitN l i
        · rw [hb] at this; cases this
        · rfl
      | some B =>
        obtain ⟨b1, b2, b3, b4⟩ := X.firP_some.1 hF
        have hset : ∀ i, f ≤ i → i < B → bitN l i = true := by
          intro i h1 h2
          have := b4 i h1 h2
          cases hb : bitN l i
          · rw [hb] at this; cases this
          · rfl
        rw [show firI (some B) = (B : Int) from rfl, if_neg (by omega), first_f l hl hm (B : Int) (hi : Int) true k (by omega), Option.bind_some, loN_nat, hiN_nat hh]
        have hbd' : f = lo ∨ bitN l f = true := by
          rcases hbd with h | h | h
          · exact Or.inl h
          · omega
          · exact Or.inr h
        have hrest : ∀ E : Nat, B < E → E ≤ hi → Run l B (E - B) → (E = hi ∨ bitN l E = true) → ∃ p q, (if wrap64 ((E : Int) - (B : Int)) > n then bits_Longest.l0 k l (E : Int) (hi : Int) (B : Int) (wrap64 ((E : Int) - (B : Int))) else bits_Longest.l0 k l (E : Int) (hi : Int) a n) = some (p, q) ∧ Best l lo hi p q := by
          intro E e1 e2 e3 e4
          have hmore := hB.more hlo b1 e1 hset e3 hbd'
          have hw : wrap64 ((E : Int) - (B : Int)) = (E : Int) - (B : Int) := wrap_id (by omega) (by omega)
          rw [hw]
          clear hw
          have := ih (hi - E) (by omega) k E _ _ (by omega) (by omega) hmore (Or.inr e4) (by omega)
          by_cases hgt : (E : Int) - (B : Int) > n
          · rw [if_pos hgt, if_pos hgt] at this
            rw [if_pos hgt]
            exact this
          · rw [if_neg hgt, if_neg hgt] at this
            rw [if_neg hgt]
            exact this
        cases hG : firP (fun i => bitN l i == true) B (hi - B) with
        | none =>
          have := hrest hi (by omega) (Nat.le_refl _) (fun i h1 h2 => by
            have := X.firP_none.1 hG i h1 (by omega)
            cases hb : bitN l i
            · rfl
            · rw [hb] at this; cases this) (Or.inl rfl)
          rw [if_pos (by unfold firI; decide)]
          exact this
        | some E =>
          obtain ⟨g1, g2, g3, g4⟩ := X.firP_some.1 hG
          have hne : B ≠ E := fun e => by
            subst e
            cases hb : bitN l B
            · rw [hb] at g3; cases g3
            · rw [hb] at b3; cases b3
          have := hrest E (by omega) (by omega) (fun i h1 h2 => by
            have := g4 i h1 (by omega)
            cases hb : bitN l i
            · rfl
            · rw [hb] at this; cases this) (Or.inr (by cases hb : bitN l E <;> simp [hb] at g3 ⊢))
          rw [show firI (some E) = (E : Int) from rfl, if_neg (by omega)]
          exact this
theorem clip_f (l : List Int) (hm : l.length ≤ 140737488355328) (a1 a2 : Int) : bits_clip.f l a1 a2 = some ((loN a1 : Int), mn a2 (8 * (l.length : Int))) := by
  unfold bits_clip.f
  rw [wrap8 l hm, lo_eq]
theorem longest_f (l : List Int) (hl : X.u8all l = true) (hm : l.length ≤ 140737488355328) (a1 a2 : Int) (k : Nat) (hk : 16 * l.length + 3 < k) : ∃ p q, bits_Longest.f k l a1 a2 = some (p, q) ∧ Best l (loN a1) (hiN l a2) p q := by
  unfold bits_Longest.f
  rw [clip_f l hm, Option.bind_some]
  dsimp only
  have hh := hi_le l a2
  by_cases h : (loN a1 : Int) < mn a2 (8 * (l.length : Int))
  · have he := hi_eq h
    rw [he] at h ⊢
    exact longest_l0 l hl hm (loN a1) (hiN l a2) hh (hiN l a2 - loN a1) k (loN a1) _ _ (by omega) (Nat.le_refl _) (Best.empty l _ _ (Nat.le_refl _)) (Or.inl rfl) (by omega)
  · obtain ⟨k, rfl⟩ : ∃ m, k = m + 1 := ⟨k - 1, by omega⟩
    refine ⟨-1, 0, ?_, Best.empty l _ _ (by have := hi_no h; omega)⟩
    rw [bits_Longest.l0, if_neg h]
theorem refLongest_l0 (l : List Int) (hl : X.u8all l = true) (hm : l.length ≤ 140737488355328) (lo hi : Nat) (hh : hi ≤ 8 * l.length) (d : Nat) : ∀ (k i r : Nat) (a n : Int), i + d = hi → lo + r ≤ i → Best l lo i a n → Run l (i - r) r → (i - r = lo ∨ bitN l (i - r - 1) = true) → d < k →
    ∃ p q, undercroftref07_Longest.l0 k l (hi : Int) a n (r : Int) (i : Int) = some (p, q) ∧ Best l lo hi p q := by
  induction d with
  | zero =>
    intro k i r a n hd hlo hB hr hbd hk
    obtain ⟨k, rfl⟩ : ∃ m, k = m + 1 := ⟨k - 1, by omega⟩
    obtain rfl : i = hi := by omega
    exact ⟨a, n, by rw [undercroftref07_Longest.l0, if_neg (by omega)], hB⟩
  | succ d ih =>
    intro k i r a n hd hlo hB hr hbd hk
    obtain ⟨k, rfl⟩ : ∃ m, k = m + 1 := ⟨k - 1, by omega⟩
    have hn := hB.nonneg
    have hg := refGet_f l hl hm (i : Int) (by omega)
    rw [getB_in (by omega)] at hg
    have w1 : wrap64 ((i : Int) + 1) = ((i + 1 : Nat) : Int) := by rw [wrap_id (by omega) (by omega)]; omega
    have w2 : wrap64 ((r : Int) + 1) = ((r + 1 : Nat) : Int) := by rw [wrap_id (by omega) (by omega)]; omega
    have w3 : wrap64 (wrap64 ((i : Int) - ((r + 1 : Nat) : Int)) + 1) = ((i - r : Nat) : Int) := by
      rw [wrap_id (n := (i : Int) - ((r + 1 : Nat) : Int)) (by omega) (by omega), wrap_id (by omega) (by omega)]
      omega
    rw [undercroftref07_Longest.l0, if_pos (by omega), hg, Option.bind_some, w1, w2, w3]
    clear w1 w2 w3 hg
    cases hbit : bitN l i
    · rw [if_neg (by decide)]
      have hr' : Run l (i - r) (r + 1) := by
        intro j h1 h2
        by_cases h3 : j = i
        · rw [h3]; exact hbit
        · exact hr j h1 (by omega)
      have hends : ∀ x y, lo ≤ x → 0 < y → x + y ≤ i + 1 → Run l x y → x + y ≤ i ∨ i - r ≤ x := by
        intro x y h2 h3 h4 h5
        rcases Nat.lt_or_ge i (x + y) with h6 | h6
        · right
          rcases hbd with h7 | h7
          · omega
          · rcases Nat.lt_or_ge x (i - r) with h8 | h8
            · have := h5 (i - r - 1) (by omega) (by omega)
              rw [h7] at this
              cases this
            · exact h8
        · exact Or.inl h6
      by_cases hgt : ((r + 1 : Nat) : Int) > n
      · rw [if_pos hgt]
        refine ih k (i + 1) (r + 1) _ _ (by omega) (by omega) (Or.inr ⟨i - r, r + 1, rfl, rfl, by omega, by omega, by omega, hr', fun x y h2 h3 h4 h5 => ?_⟩) (by rw [show i + 1 - (r + 1) = i - r from by omega]; exact hr') (by rw [show i + 1 - (r + 1) = i - r from by omega]; exact hbd) (by omega)
        rcases hends x y h2 h3 h4 h5 with h6 | h6
        · rcases hB with ⟨rfl, rfl, h1⟩ | ⟨a, m, rfl, rfl, h1⟩
          · have := h5 x (Nat.le_refl _) (by omega)
            rw [h1 x h2 (by omega)] at this
            cases this
          · have := h1.best x y h2 h3 h6 h5
            omega
        · omega
      · rw [if_neg hgt]
        refine ih k (i + 1) (r + 1) _ _ (by omega) (by omega) ?_ (by rw [show i + 1 - (r + 1) = i - r from by omega]; exact hr') (by rw [show i + 1 - (r + 1) = i - r from by omega]; exact hbd) (by omega)
        rcases hB with ⟨rfl, rfl, h1⟩ | ⟨a, m, rfl, rfl, h1⟩
        · omega
        · have e3 := h1.high
          refine Or.inr ⟨a, m, rfl, rfl, h1.pos, h1.low, by omega, h1.run, fun x y h2 h3 h4 h5 => ?_⟩
          rcases hends x y h2 h3 h4 h5 with h6 | h6
          · exact h1.best x y h2 h3 h6 h5
          · omega
    · rw [if_pos rfl, if_neg (by omega)]
      exact ih k (i + 1) 0 _ _ (by omega) (by omega) (hB.rest (by omega) (fun j h1 h2 => by rw [show j = i from by omega]; exact hbit)) (fun j h1 h2 => by omega) (Or.inr (by rw [show i + 1 - 0 - 1 = i from by omega]; exact hbit)) (by omega)
theorem refLongest_f (l : List Int) (hl : X.u8all l = true) (hm : l.length ≤ 140737488355328) (a1 a2 : Int) (k : Nat) (hk : 8 * l.length + 1 < k) : ∃ p q, undercroftref07_Longest.f k l a1 a2 = some (p, q) ∧ Best l (loN a1) (hiN l a2) p q := by
  unfold undercroftref07_Longest.f
  rw [ends_f l hm, Option.bind_some]
  dsimp only
  have hh := hi_le l a2
  by_cases h : (loN a1 : Int) < mn a2 (8 * (l.length : Int))
  · have he := hi_eq h
    rw [he] at h ⊢
    exact refLongest_l0 l hl hm (loN a1) (hiN l a2) hh (hiN l a2 - loN a1) k (loN a1) 0 _ _ (by omega) (Nat.le_refl _) (Best.empty l _ _ (Nat.le_refl _)) (fun j h1 h2 => by omega) (Or.inl (by omega)) (by omega)
  · obtain ⟨k, rfl⟩ : ∃ m, k = m + 1 := ⟨k - 1, by omega⟩
    refine ⟨-1, 0, ?_, Best.empty l _ _ (by have := hi_no h; omega)⟩
    rw [undercroftref07_Longest.l0, if_neg h]
theorem alive_20 : undercroftlaw07_alive.f 20 = some true := by decide +kernel
theorem alive_true (k : Nat) (hk : 20 ≤ k) : undercroftlaw07_alive.f k = some true := at_rounds (g := undercroftlaw07_alive.f) undercroftlaw07_alive.mono hk alive_20
end Go.Proofs.Ytlieacllpifhkaa.Pure
