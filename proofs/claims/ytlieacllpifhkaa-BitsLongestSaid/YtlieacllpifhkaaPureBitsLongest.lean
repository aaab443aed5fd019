/- BitsLongest: the longest run is free, is the first of its length, and none is longer; no condition. -/
import Derived.Test.YtlieacllpifhkaaUx11
import Derived.Test.YtlieacllpifhkaaPBits3
namespace Go.Proofs.Ytlieacllpifhkaa.Pure
open Go Go.RowKit Go.Proofs.Ytlieacllpifhkaa.U Go.Proofs.YtlieacllpifhkaaW.PrintWords Go.Proofs.YtlieacllpifhkaaW.PrintLast Go.Proofs.YtlieacllpifhkaaW.PrintMore
set_option linter.unusedVariables false
set_option linter.unusedSimpArgs false
open X (cntP firP)
theorem wsucc (n : Nat) (h : n ≤ 1125899906842625) : wrap64 ((n : Int) + 1) = ((n + 1 : Nat) : Int) := by rw [wrap_id (by omega) (by omega)]; rfl
theorem wadd (a m : Nat) (h : a + m ≤ 1125899906842625) : wrap64 ((a : Int) + (m : Int)) = ((a + m : Nat) : Int) := by rw [wrap_id (by omega) (by omega)]; rfl
theorem wpred (a : Nat) (h : 0 < a) (h2 : a ≤ 1125899906842625) : wrap64 ((a : Int) - 1) = ((a - 1 : Nat) : Int) := by rw [wrap_id (by omega) (by omega)]; omega
theorem long_l0 (l : List Int) (hl : X.u8all l = true) (hm : l.length ≤ 140737488355328) (lo : Nat) (a2 : Int) (a m : Nat) (hB : BestAt l lo (hiN l a2) a m) (d : Nat) : ∀ (k i r : Nat), (i + d = hiN l a2 ∨ d = 0 ∧ hiN l a2 ≤ i) → lo + r ≤ i → Run l (i - r) r → 2 * d + 3 < k → (i : Int) ≤ 9223372036854775807 →
    undercroftlaw07_BitsLongest.l0 k l a2 (a : Int) (m : Int) (r : Int) (i : Int) = some true := by
  have hh := hi_le l a2
  induction d with
  | zero =>
    intro k i r hd hlo hr hk hi
    obtain ⟨k, rfl⟩ : ∃ m, k = m + 1 + 1 := ⟨k - 2, by omega⟩
    rw [undercroftlaw07_BitsLongest.l0]
    by_cases h1 : (i : Int) < a2
    · rw [if_pos h1, wrap8 l hm, decide_eq_false (by unfold hiN mn at *; omega), undercroftlaw07_BitsLongest.j2, if_neg (by decide)]
    · rw [if_neg h1, undercroftlaw07_BitsLongest.j2, if_neg (by decide)]
  | succ d ih =>
    intro k i r hd hlo hr hk hi
    obtain ⟨k, rfl⟩ : ∃ m, k = m + 1 + 1 := ⟨k - 2, by omega⟩
    have hlt : i < hiN l a2 := by omega
    have hp := hB.pos
    have hhi := hB.high
    have ha2 : (i : Int) < a2 := by unfold hiN mn at hlt; omega
    have hi8 : i < 8 * l.length := by omega
    have hg := get_f l hl hm (i : Int) (by omega)
    rw [getB_in hi8] at hg
    have c1 : (i : Int) < 8 * (l.length : Int) := by omega
    have hmx : i ≤ 1125899906842624 := by omega
    have hmr : r ≤ 1125899906842624 := Nat.le_trans (Nat.le_trans (Nat.le_add_left r lo) hlo) hmx
    have hma : a + m ≤ 1125899906842624 := by clear hd; omega
    have hm0 : 0 < a + m := by omega
    have w1 := wsucc i (by omega)
    have w2 := wsucc r (by omega)
    have w3 : wrap64 (wrap64 ((a : Int) + (m : Int)) - 1) = ((a + m - 1 : Nat) : Int) := by rw [wadd a m (by omega), wpred (a + m) hm0 (by omega)]
    rw [undercroftlaw07_BitsLongest.l0, if_pos ha2, wrap8 l hm, decide_eq_true c1, undercroftlaw07_BitsLongest.j2, if_pos rfl, hg, Option.bind_some, w1, w2, w3]
    clear w1 w2 w3 hg
    cases hbit : bitN l i
    · have hr' : Run l (i - r) (r + 1) := by
        intro j h1 h2
        by_cases h3 : j = i
        · rw [h3]; exact hbit
        · exact hr j h1 (by omega)
      have hb := hB.best (i - r) (r + 1) (by omega) (by omega) (by omega) hr'
      have hnext := ih k (i + 1) (r + 1) (by omega) (by omega) (by rw [show i + 1 - (r + 1) = i - r from by omega]; exact hr') (by omega) (by omega)
      rw [if_neg (by decide), if_neg (by omega)]
      by_cases he : ((r + 1 : Nat) : Int) = (m : Int)
      · rw [if_pos he, if_neg (by have := hb.2 (by omega); omega)]
        exact hnext
      · rw [if_neg he]
        exact hnext
    · rw [if_pos rfl, if_neg (by omega), if_neg (by omega)]
      exact ih k (i + 1) 0 (by omega) (by omega) (fun j h1 h2 => by omega) (by omega) (by omega)
theorem BitsLongest : undercroftlaw07_BitsLongest.Pure := by
  intro l a1 a2 hmax hsz hwf h1 h2
  have hl := X.u8all_wf hwf
  have hm : l.length ≤ 140737488355328 := by omega
  have hb1 : a1 ≤ 9223372036854775807 := by
    simp [Lit.wf, IntKind.max, IntKind.min, IntKind.bits, IntKind.signed] at h1
    omega
  have hb2 : -9223372036854775808 ≤ a2 ∧ a2 ≤ 9223372036854775807 := by
    simp [Lit.wf, IntKind.max, IntKind.min, IntKind.bits, IntKind.signed] at h2
    omega
  refine ⟨16 * l.length + 30 + 1, ?_⟩
  obtain ⟨p, q, hL, hB⟩ := longest_f l hl hm a1 a2 (16 * l.length + 30 + 1) (by omega)
  have hh := hi_le l a2
  unfold undercroftlaw07_BitsLongest.f
  rw [alive_true _ (by omega), Option.bind_some, if_pos rfl, hL, Option.bind_some]
  dsimp only
  rcases hB with ⟨rfl, rfl, hset⟩ | ⟨a, m, rfl, rfl, hB⟩
  · rw [if_pos rfl, if_pos rfl, first_f l hl hm a1 a2 false _ (by omega), Option.bind_some]
    have : firP (fun i => bitN l i == false) (loN a1) (hiN l a2 - loN a1) = none := X.firP_none.2 (fun i h3 h4 => by rw [hset i h3 (by omega)]; rfl)
    rw [this]
    rfl
  · have hp := hB.pos
    have hlo := hB.low
    have hhi := hB.high
    have ha2 : ((a + m : Nat) : Int) ≤ a2 := by unfold hiN mn at hhi; omega
    have hlo' : mx a1 0 = (loN a1 : Int) := lo_eq a1
    have c1 : ¬ (m : Int) = 0 := by omega
    have hma : a + m ≤ 1125899906842624 := by omega
    have b1 : -9223372036854775808 ≤ a2 - (m : Int) := by omega
    have b2 : a2 - (m : Int) ≤ 9223372036854775807 := by omega
    have b3 : -9223372036854775808 ≤ 8 * (l.length : Int) - (m : Int) := by omega
    have b4 : 8 * (l.length : Int) - (m : Int) ≤ 9223372036854775807 := by omega
    have w1 := wadd a m (Nat.le_trans hma (by decide))
    have w2 : wrap64 (wrap64 (8 * (l.length : Int)) - (m : Int)) = 8 * (l.length : Int) - (m : Int) := by rw [wrap8 l hm, wrap_id b3 b4]
    have w3 : wrap64 (a2 - (m : Int)) = a2 - (m : Int) := wrap_id b1 b2
    rw [if_neg c1, hlo', w2, w3, w1]
    clear w1 w2 w3
    rw [if_neg (by omega), if_neg (by omega), if_neg (by omega), count_f l hl hm (a : Int) ((a + m : Nat) : Int) _ (by omega), Option.bind_some, loN_nat, hiN_nat (by omega), show a + m - a = m from by omega, X.cntP_zero.2 (fun i h3 h4 => hB.run i h3 h4), undercroftlaw07_BitsLongest.j0, if_neg (by decide), hlo']
    rcases Nat.lt_or_ge (loN a1) (hiN l a2) with h3 | h3
    · exact long_l0 l hl hm (loN a1) a2 a m hB (hiN l a2 - loN a1) _ (loN a1) 0 (by omega) (by omega) (fun j h4 h5 => by omega) (by omega) (by omega)
    · omega
end Go.Proofs.Ytlieacllpifhkaa.Pure
