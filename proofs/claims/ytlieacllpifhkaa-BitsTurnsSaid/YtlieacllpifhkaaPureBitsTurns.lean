/- BitsTurns: what is put and filled is what the document says; the first bytes stay; no condition. -/
import Derived.Test.YtlieacllpifhkaaUx16
import Derived.Test.YtlieacllpifhkaaPBits3
namespace Go.Proofs.Ytlieacllpifhkaa.Pure
open Go Go.RowKit Go.Proofs.Ytlieacllpifhkaa.U Go.Proofs.YtlieacllpifhkaaW.PrintWords Go.Proofs.YtlieacllpifhkaaW.PrintLast Go.Proofs.YtlieacllpifhkaaW.PrintMore
set_option linter.unusedVariables false
set_option linter.unusedSimpArgs false
theorem turns_l1 (l : List Int) (hm : l.length ≤ 140737488351232) (d : Nat) : ∀ (k i : Nat) (x : List Int), i + d = x.length → x.length = l.length → d < k →
    undercroftlaw07_BitsTurns.l1 k l l x (i : Int) = some true := by
  induction d with
  | zero =>
    intro k i x hd hx hk
    obtain ⟨k, rfl⟩ : ∃ m, k = m + 1 := ⟨k - 1, by omega⟩
    have w : wrap64 ((l.length : Int) + 1) = ((x ++ [1]).length : Int) := by
      rw [wrap_id (by omega) (by omega), List.length_append, List.length_singleton, hx]
      rfl
    rw [undercroftlaw07_BitsTurns.l1, if_neg (by omega), if_pos (by omega), if_pos rfl, w, beq_self_eq_true]
  | succ d ih =>
    intro k i x hd hx hk
    obtain ⟨k, rfl⟩ : ∃ m, k = m + 1 := ⟨k - 1, by omega⟩
    have w : wrap64 ((i : Int) + 1) = ((i + 1 : Nat) : Int) := by rw [wrap_id (by omega) (by omega)]; rfl
    rw [undercroftlaw07_BitsTurns.l1, if_pos (by omega), if_pos (by omega), w]
    exact ih k (i + 1) _ (by rw [List.length_set]; omega) (by rw [List.length_set]; exact hx) (by omega)
theorem turns_l0 (l : List Int) (hl : X.u8all l = true) (hm : l.length ≤ 140737488351232) (a1 a2 : Int) (h2 : a1 ≤ 9223372036854775807) (x : Int) (k : Nat) (hx : 0 ≤ x ∧ x < 2) (hk : 8 * l.length + 3 < k) :
    undercroftlaw07_BitsTurns.l0 (k + 1) l a1 a2 l x = undercroftlaw07_BitsTurns.l0 k l a1 a2 l (x + 1) := by
  obtain ⟨r, h3, h4⟩ := put_f l hl hm a1 h2 (decide (x = 0)) k (by omega)
  obtain ⟨s, h5, h6⟩ := refPut_f l hl hm a1 h2 (decide (x = 0)) k (by omega)
  obtain ⟨t, h7, h8⟩ := fill_f l hl hm a1 a2 (decide (x = 0)) k (by omega)
  obtain ⟨u, h9, h10⟩ := refFill_f l hl hm a1 a2 (decide (x = 0)) k (by omega)
  have e1 := h4.uniq h6
  have e2 := h8.uniq h10
  subst e1 e2
  have w : wrap64 (x + 1) = x + 1 := wrap_id (by omega) (by omega)
  rw [undercroftlaw07_BitsTurns.l0, if_pos hx.2, if_pos hx.1, h3, Option.bind_some, h5, Option.bind_some, if_pos rfl, h7, Option.bind_some, h9, Option.bind_some, if_pos rfl, w]
theorem BitsTurns : undercroftlaw07_BitsTurns.Pure := by
  intro l a1 a2 hmax hsz hwf h1 h2
  have hl := X.u8all_wf hwf
  have hm : l.length ≤ 140737488351232 := by omega
  have hb : a1 ≤ 9223372036854775807 := by
    simp [Lit.wf, IntKind.max, IntKind.min, IntKind.bits, IntKind.signed] at h1
    omega
  refine ⟨8 * l.length + 40 + 1 + 1 + 1, ?_⟩
  unfold undercroftlaw07_BitsTurns.f
  obtain ⟨t, h7, h8⟩ := fill_f l hl hm a1 a2 true (8 * l.length + 40) (by omega)
  rw [alive_true _ (by omega), Option.bind_some, if_pos rfl, Option.bind_some, if_pos (by rw [List.length_nil]; omega), List.nil_append,
    turns_l0 l hl hm a1 a2 hb 0 _ (by omega) (by omega), turns_l0 l hl hm a1 a2 hb (0 + 1) _ (by omega) (by omega), undercroftlaw07_BitsTurns.l0, if_neg (by decide), h7, Option.bind_some]
  exact turns_l1 l hm l.length _ 0 t (by rw [h8.len]; omega) h8.len (by omega)
end Go.Proofs.Ytlieacllpifhkaa.Pure
