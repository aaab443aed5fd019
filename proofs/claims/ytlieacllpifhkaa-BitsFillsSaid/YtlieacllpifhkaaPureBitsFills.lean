/- BitsFills: behind a fill the bits named are turned, and no other one is; no condition. -/
import Derived.Test.YtlieacllpifhkaaUx10
import Derived.Test.YtlieacllpifhkaaPBits3
namespace Go.Proofs.Ytlieacllpifhkaa.Pure
open Go Go.RowKit Go.Proofs.Ytlieacllpifhkaa.U Go.Proofs.YtlieacllpifhkaaW.PrintWords Go.Proofs.YtlieacllpifhkaaW.PrintLast Go.Proofs.YtlieacllpifhkaaW.PrintMore
set_option linter.unusedVariables false
set_option linter.unusedSimpArgs false
theorem fills_l1 (l r : List Int) (hl : X.u8all l = true) (hm : l.length ≤ 140737488351232) (a1 a2 : Int) (v : Bool) (h : IsFill l (loN a1) (hiN l a2) v r) (x : Int) (k d : Nat) : ∀ i : Nat, i + d = 8 * l.length →
    undercroftlaw07_BitsFills.l1 (2 * d + 1 + k) l a1 a2 v r (i : Int) x = undercroftlaw07_BitsFills.l0 k l a1 a2 (wrap64 (x + 1)) := by
  have hw : wrap64 (8 * (l.length : Int)) = ((8 * l.length : Nat) : Int) := by rw [wrap8 l (by omega)]; rfl
  have hlen := h.len
  induction d with
  | zero =>
    intro i hd
    obtain rfl : i = 8 * l.length := by omega
    rw [show 2 * 0 + 1 + k = k + 1 from by omega, undercroftlaw07_BitsFills.l1, hw, if_neg (by omega)]
  | succ d ih =>
    intro i hd
    have hi : i < 8 * l.length := by omega
    have w : wrap64 ((i : Int) + 1) = ((i + 1 : Nat) : Int) := by rw [wrap_id (by omega) (by omega)]; rfl
    have hb := h.bits i hi
    have g1 := get_f r h.u8 (by omega) (i : Int) (by omega)
    rw [getB_in (by omega)] at g1
    have g2 := get_f l hl (by omega) (i : Int) (by omega)
    rw [getB_in hi] at g2
    have key : ∀ b : Bool, b = decide (loN a1 ≤ i ∧ i < hiN l a2) → undercroftlaw07_BitsFills.j2 (2 * d + 1 + k + 1) l a1 a2 v r (i : Int) b x = undercroftlaw07_BitsFills.l0 k l a1 a2 (wrap64 (x + 1)) := by
      intro b hb'
      rw [undercroftlaw07_BitsFills.j2, g1, g2, w]
      by_cases hc : loN a1 ≤ i ∧ i < hiN l a2
      · rw [if_pos hc] at hb
        rw [hb', decide_eq_true hc, if_pos rfl, Option.bind_some, hb, if_neg (by cases v <;> decide)]
        exact ih (i + 1) (by omega)
      · rw [if_neg hc] at hb
        rw [hb', decide_eq_false hc, if_neg (by decide), Option.bind_some, Option.bind_some, hb, if_neg (by cases bitN l i <;> decide)]
        exact ih (i + 1) (by omega)
    rw [show 2 * (d + 1) + 1 + k = 2 * d + 1 + k + 1 + 1 from by omega, undercroftlaw07_BitsFills.l1, hw, if_pos (by omega)]
    clear w g1 g2 hb hw
    by_cases h1 : (i : Int) ≥ a1
    · rw [if_pos h1]
      refine key _ ?_
      rw [decide_eq_decide]
      unfold loN hiN mx mn
      omega
    · rw [if_neg h1]
      refine key _ (decide_eq_false ?_).symm
      unfold loN mx
      omega
theorem fills_l0 (l : List Int) (hl : X.u8all l = true) (hm : l.length ≤ 140737488351232) (a1 a2 : Int) (x : Int) (hx : 0 ≤ x ∧ x < 2) (k : Nat) (hk : 1 < k) :
    undercroftlaw07_BitsFills.l0 (2 * (8 * l.length) + 1 + k + 1) l a1 a2 x = undercroftlaw07_BitsFills.l0 k l a1 a2 (x + 1) := by
  obtain ⟨r, h3, h4⟩ := fill_f l hl hm a1 a2 (decide (x = 0)) (2 * (8 * l.length) + 1 + k) (by omega)
  have w : wrap64 (x + 1) = x + 1 := wrap_id (by omega) (by omega)
  have h := fills_l1 l r hl hm a1 a2 (decide (x = 0)) h4 x k (8 * l.length) 0 (by omega)
  rw [w] at h
  rw [undercroftlaw07_BitsFills.l0, if_pos hx.2, if_pos hx.1, h3, Option.bind_some, h4.len, if_pos rfl]
  exact h
theorem BitsFills : undercroftlaw07_BitsFills.Pure := by
  intro l a1 a2 hmax hsz hwf h1 h2
  have hl := X.u8all_wf hwf
  have hm : l.length ≤ 140737488351232 := by omega
  refine ⟨2 * (8 * l.length) + 1 + (2 * (8 * l.length) + 1 + 30 + 1) + 1, ?_⟩
  unfold undercroftlaw07_BitsFills.f
  rw [alive_true _ (by omega), Option.bind_some, if_pos rfl, fills_l0 l hl hm a1 a2 0 (by omega) _ (by omega), fills_l0 l hl hm a1 a2 (0 + 1) (by omega) 30 (by omega), undercroftlaw07_BitsFills.l0, if_neg (by decide)]
end Go.Proofs.Ytlieacllpifhkaa.Pure
