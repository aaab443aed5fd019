/- What is taken: told once, and told so by the program and by the document. -/
import Derived.Test.YtlhpejdbmbpmhaaUx2
import Derived.Test.YtlhpejdbmbpmhaaUx6
import Derived.Test.YtlhpejdbmbpmhaaUx8
import Derived.Test.YtlhpejdbmbpmhaaUx13
import Derived.Test.YtlhpejdbmbpmhaaPBuddy
namespace Go.Proofs.Ytlhpejdbmbpmhaa.Pure
open Go Go.RowKit Go.Proofs.Ytlhpejdbmbpmhaa.U Go.Proofs.YtlhpejdbmbpmhaaW.PrintWords Go.Proofs.YtlhpejdbmbpmhaaW.PrintLast Go.Proofs.YtlhpejdbmbpmhaaW.PrintMore
set_option linter.unusedVariables false
set_option linter.unusedSimpArgs false
open X (cntP firP)
theorem IsFrom.far {l : List Int} {n o g : Nat} (hg : n ≤ g) : IsFrom l n o g (-1) := .inl ⟨rfl, fun c _ h => freeB_no (by have : 1 ≤ 2 ^ o := Nat.one_le_two_pow; omega)⟩
theorem IsFind.uniq {l : List Int} {n o g : Nat} {r r' : Int} (h : IsFind l n o g r) (h' : IsFind l n o g r') : r = r' := by
  rcases h with ⟨h1, h2⟩ | ⟨h1, h2⟩ <;> rcases h' with ⟨h1', h2'⟩ | ⟨h1', h2'⟩
  · exact h1.uniq h1'
  · have := h1.uniq h1'
    omega
  · have := h1.uniq h1'
    omega
  · exact h2.uniq h2'
theorem IsFind.min_ {l : List Int} {n o g : Nat} {r : Int} (h : IsFind l n o (min g n) r) : IsFind l n o g r := by
  by_cases hg : g ≤ n
  · rwa [Nat.min_eq_left hg] at h
  · rw [Nat.min_eq_right (by omega)] at h
    rcases h with ⟨h1, h2⟩ | ⟨_, h2⟩
    · have := h1.uniq (IsFrom.far (Nat.le_refl _))
      omega
    · exact .inr ⟨IsFrom.far (by omega), h2⟩
theorem IsFind.found {l : List Int} {n o g : Nat} {r : Int} (h : IsFind l n o g r) (h0 : 0 ≤ r) : ∃ c : Nat, r = (c : Int) ∧ c % 2 ^ o = 0 ∧ freeB l n c o = true := by
  have key : ∀ g, IsFrom l n o g r → ∃ c : Nat, r = (c : Int) ∧ c % 2 ^ o = 0 ∧ freeB l n c o = true := by
    intro g h
    rcases h with ⟨h1, _⟩ | ⟨c, h1, h2, _, h4, _⟩
    · omega
    · exact ⟨c, h1, h2, h4⟩
  rcases h with ⟨h1, _⟩ | ⟨_, h2⟩
  · exact key _ h1
  · exact key _ h2
theorem IsFind.none_ {l : List Int} {n o g : Nat} {r : Int} (h : IsFind l n o g r) (h0 : r < 0) : ∀ c, c % 2 ^ o = 0 → freeB l n c o = false := by
  rcases h with ⟨_, h2⟩ | ⟨_, h2⟩
  · omega
  · rcases h2 with ⟨_, h⟩ | ⟨c, h, _⟩
    · exact fun c h1 => h c h1 (Nat.zero_le _)
    · omega
/-- What Take answers behind its conditions, K being the greatest order that is looked at (one less: none). -/
def Took (l : List Int) (n want K : Nat) (res : List Int × Int × Int × Int) : Prop :=
  (res = ([], 0, 0, 9) ∧ ∀ o, o < K → ∀ c, c % 2 ^ o = 0 → freeB l n c o = false) ∨
  ∃ (o c : Nat) (r : List Int), o < K ∧ c % 2 ^ o = 0 ∧ freeB l n c o = true ∧ (∀ o', o < o' → o' < K → ∀ c', c' % 2 ^ o' = 0 → freeB l n c' o' = false) ∧ IsFill l c (c + min want (2 ^ o)) true r ∧ res = (r, (c : Int), ((min want (2 ^ o) : Nat) : Int), 0)
theorem Took.down {l : List Int} {n want K : Nat} {res : List Int × Int × Int × Int} (h : Took l n want K res) (hK : ∀ c, c % 2 ^ K = 0 → freeB l n c K = false) : Took l n want (K + 1) res := by
  rcases h with ⟨h1, h2⟩ | ⟨o, c, r, h1, h2, h3, h4, h5, h6⟩
  · refine .inl ⟨h1, fun o ho c hc => ?_⟩
    rcases Nat.lt_or_ge o K with h | h
    · exact h2 o h c hc
    · obtain rfl : o = K := by omega
      exact hK c hc
  · refine .inr ⟨o, c, r, by omega, h2, h3, fun o' h7 h8 c' hc' => ?_, h5, h6⟩
    rcases Nat.lt_or_ge o' K with h | h
    · exact h4 o' h7 h c' hc'
    · obtain rfl : o' = K := by omega
      exact hK c' hc'
theorem mn_nat (a b : Nat) : mn (a : Int) (b : Int) = ((min a b : Nat) : Int) := by unfold mn; omega
theorem took_l (l : List Int) (hl : X.u8all l = true) (hm : l.length ≤ 140737488351232) (n : Nat) (hn : n ≤ 8 * l.length) (want g : Nat) (hw : 1 ≤ want) (K : Nat) (hK : K ≤ 7) : ∀ (k : Nat), 16 * l.length + 160 + K < k →
    ∃ res, buddy_Take.l0 k l (want : Int) ((min g n : Nat) : Int) ((K : Int) - 1) l (n : Int) = some res ∧ undercroftref08_Take.l1 k l (n : Int) (want : Int) (g : Int) ((K : Int) - 1) = some res ∧ Took l n want K res := by
  induction K with
  | zero =>
    intro k hk
    obtain ⟨k, rfl⟩ : ∃ m, k = m + 1 := ⟨k - 1, by omega⟩
    rw [buddy_Take.l0, undercroftref08_Take.l1, if_neg (by omega), if_neg (by omega)]
    exact ⟨_, rfl, rfl, .inl ⟨rfl, fun o h => absurd h (Nat.not_lt_zero _)⟩⟩
  | succ K ih =>
    intro k hk
    obtain ⟨k, rfl⟩ : ∃ m, k = m + 1 := ⟨k - 1, by omega⟩
    have hp := pow6 K (by omega)
    have e1 : ((K + 1 : Nat) : Int) - 1 = (K : Int) := by omega
    obtain ⟨r1, h1, h2⟩ := from_f l hl (by omega) n hn K (by omega) (min g n) (Nat.min_le_right _ _) k (by omega)
    obtain ⟨r0, h3, h4⟩ := from_f l hl (by omega) n hn K (by omega) 0 (Nat.zero_le _) k (by omega)
    replace h3 : buddy_pool_from.f k l (n : Int) 0 (K : Int) = some r0 := h3
    obtain ⟨r, h5, h6⟩ := find_f l hl (by omega) n hn K (by omega) g k (by omega)
    obtain ⟨res, h7, h8, h9⟩ := ih (by omega) k (by omega)
    have hk0 : (0 : Int) ≤ (K : Int) := by omega
    -- a chunk is found
    have got : 0 ≤ r → ∃ res, ((bits_Fill.f k l r (wrap64 (r + mn (want : Int) ((2 ^ K : Nat) : Int))) true).bind fun t => some (t, r, mn (want : Int) ((2 ^ K : Nat) : Int), (0 : Int))) = some res ∧
        ((undercroftref07_Fill.f k l r (wrap64 (r + mn (want : Int) ((2 ^ K : Nat) : Int))) true).bind fun t => some (t, r, mn (want : Int) ((2 ^ K : Nat) : Int), (0 : Int))) = some res ∧ Took l n want (K + 1) res := by
      intro h0
      obtain ⟨c, hc, hc2, hc3⟩ := h6.found h0
      subst hc
      have hle := freeB_le hc3
      have hmin : min want (2 ^ K) ≤ 2 ^ K := Nat.min_le_right _ _
      have w2 : wrap64 ((c : Int) + ((min want (2 ^ K) : Nat) : Int)) = ((c + min want (2 ^ K) : Nat) : Int) := by rw [wrap_id (by omega) (by omega)]; rfl
      rw [mn_nat, w2]
      clear w2
      have hle8 : c + min want (2 ^ K) ≤ 8 * l.length := by omega
      obtain ⟨s, h10, h11⟩ := fill_f l hl hm (c : Int) ((c + min want (2 ^ K) : Nat) : Int) true k (by omega)
      obtain ⟨s', h12, h13⟩ := refFill_f l hl hm (c : Int) ((c + min want (2 ^ K) : Nat) : Int) true k (by omega)
      have := h11.uniq h13
      subst this
      rw [loN_nat, hiN_nat hle8] at h11
      rw [h10, h12]
      exact ⟨_, rfl, rfl, .inr ⟨K, c, s, Nat.lt_succ_self _, hc2, hc3, fun o' h1 h2 => by omega, h11, rfl⟩⟩
    have w1 : wrap64 ((K : Int) - 1) = (K : Int) - 1 := wrap_id (by omega) (by omega)
    rw [e1, buddy_Take.l0, undercroftref08_Take.l1, if_pos hk0, if_pos hk0, h1, h3, h5, Option.bind_some, Option.bind_some, Option.bind_some, shlw K (by omega), w1]
    clear w1
    by_cases hr1 : r1 < 0
    · rw [if_pos hr1]
      have hf : IsFind l n K g r0 := by
        have : r1 = -1 := by
          rcases h2 with ⟨h, _⟩ | ⟨c, h, _⟩
          · exact h
          · omega
        subst this
        exact IsFind.min_ (.inr ⟨h2, h4⟩)
      obtain rfl := h6.uniq hf
      by_cases hr : r < 0
      · rw [if_pos hr, if_neg (by omega)]
        exact ⟨res, h7, h8, h9.down (h6.none_ hr)⟩
      · rw [if_neg hr, if_pos hk0, if_pos (by omega), if_pos hk0]
        exact got (by omega)
    · rw [if_neg hr1, if_pos hk0]
      obtain rfl := h6.uniq (IsFind.min_ (.inl ⟨h2, by omega⟩))
      rw [if_pos (by omega), if_pos hk0]
      exact got (by omega)
end Go.Proofs.Ytlhpejdbmbpmhaa.Pure
