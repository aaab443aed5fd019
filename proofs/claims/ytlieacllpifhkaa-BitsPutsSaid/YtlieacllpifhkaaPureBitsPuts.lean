/- BitsPuts: a bit put is got, the length stays, the count moves by at most the one bit, and putting back what was there gives the first bytes; no condition. -/
import Derived.Test.YtlieacllpifhkaaUx16
import Derived.Test.YtlieacllpifhkaaPBits3
namespace Go.Proofs.Ytlieacllpifhkaa.Pure
open Go Go.RowKit Go.Proofs.Ytlieacllpifhkaa.U Go.Proofs.YtlieacllpifhkaaW.PrintWords Go.Proofs.YtlieacllpifhkaaW.PrintLast Go.Proofs.YtlieacllpifhkaaW.PrintMore
set_option linter.unusedVariables false
set_option linter.unusedSimpArgs false
open X (cntP firP)
theorem puts_cnt {p q : Nat → Bool} {n N : Nat} (hn : n < N) (h : ∀ i, i < N → i ≠ n → q i = p i) : cntP q 0 N + (p n).toNat = cntP p 0 N + (q n).toNat := by
  have h1 : ∀ p : Nat → Bool, cntP p n 1 = (p n).toNat := fun p => by simp [cntP]
  have hs : ∀ p : Nat → Bool, cntP p 0 N = cntP p 0 n + ((p n).toNat + cntP p (n + 1) (N - n - 1)) := fun p => by
    have e := X.cntP_add p 0 n (1 + (N - n - 1))
    rw [X.cntP_add p (0 + n) 1, Nat.zero_add, h1, show n + (1 + (N - n - 1)) = N from by omega] at e
    exact e
  rw [hs p, hs q, X.cntP_congr (p := q) (q := p) (a := 0) (d := n) (fun i h1 h2 => h i (by omega) (by omega)), X.cntP_congr (p := q) (q := p) (a := n + 1) (d := N - n - 1) (fun i h1 h2 => h i (by omega) (by omega))]
  omega
theorem puts_j5 (l r : List Int) (hl : X.u8all l = true) (hm : l.length ≤ 140737488351232) (a1 : Int) (h2 : a1 ≤ 9223372036854775807) (x9 x10 : Nat) (hr : X.u8all r = true) (hn : r.length = l.length)
    (hc : cntP (bitN r) 0 (8 * l.length) + x9 = cntP (bitN l) 0 (8 * l.length) + x10) (hx : x9 ≤ 1) (hy : x10 ≤ 1)
    (hp : ∀ s, IsPut r a1 (getB l a1) s → s = l) (k : Nat) (hk : 8 * l.length + 3 < k) : undercroftlaw07_BitsPuts.j5 (k + 1) l a1 r (x9 : Int) (x10 : Int) = some true := by
  obtain ⟨s, hs, hP⟩ := put_f r hr (by omega) a1 h2 (getB l a1) k (by omega)
  have hw : wrap64 (8 * (l.length : Int)) = ((8 * l.length : Nat) : Int) := by rw [wrap8 l (by omega)]; rfl
  rw [undercroftlaw07_BitsPuts.j5, hn, hw, count_f r hr (by omega) 0 _ k (by omega), Option.bind_some, count_f l hl (by omega) 0 _ k (by omega), Option.bind_some, hiN_nat (l := r) (b := 8 * l.length) (by omega), hiN_nat (l := l) (Nat.le_refl _), show loN 0 = 0 from rfl, Nat.sub_zero]
  clear hw
  have e1 := X.cntP_le (bitN r) 0 (8 * l.length)
  have e2 := X.cntP_le (bitN l) 0 (8 * l.length)
  generalize cntP (bitN r) 0 (8 * l.length) = C at *
  generalize cntP (bitN l) 0 (8 * l.length) = D at *
  have w : (C : Int) = wrap64 (wrap64 ((D : Int) - (x9 : Int)) + (x10 : Int)) := by rw [wrap_id (n := (D : Int) - (x9 : Int)) (by omega) (by omega), wrap_id (by omega) (by omega)]; omega
  rw [if_pos w, get_f l hl (by omega) a1 h2, Option.bind_some, hs, Option.bind_some, hp s hP, beq_self_eq_true]
theorem puts_j0 (l r : List Int) (hl : X.u8all l = true) (hm : l.length ≤ 140737488351232) (a1 : Int) (h2 : a1 ≤ 9223372036854775807) (v : Bool) (h : IsPut l a1 v r) (k : Nat) (hk : 8 * l.length + 12 < k) :
    undercroftlaw07_BitsPuts.j0 k l a1 v r (decide (0 ≤ a1 ∧ a1 < 8 * (l.length : Int))) = some true := by
  obtain ⟨k, rfl⟩ : ∃ m, k = m + 1 + 1 + 1 + 1 + 1 + 1 := ⟨k - 6, by omega⟩
  by_cases hin : 0 ≤ a1 ∧ a1 < 8 * (l.length : Int)
  · rw [decide_eq_true hin]
    unfold IsPut at h
    rw [if_pos hin] at h
    obtain ⟨n, rfl⟩ : ∃ n : Nat, a1 = (n : Int) := ⟨a1.toNat, by omega⟩
    have hn : n < 8 * l.length := by omega
    rw [Int.toNat_natCast] at h
    have hb := h.bits n hn
    rw [if_pos (by omega)] at hb
    have hlen := h.len
    rw [undercroftlaw07_BitsPuts.j0, hlen, if_pos rfl, get_f r h.u8 (by omega) (n : Int) h2, Option.bind_some, getB_in (by omega), hb]
    have g1 : (if v = true then undercroftlaw07_BitsPuts.j1 (k + 1 + 1 + 1 + 1 + 1) l (n : Int) v r true (v != true) else undercroftlaw07_BitsPuts.j1 (k + 1 + 1 + 1 + 1 + 1) l (n : Int) v r true (v != false)) = undercroftlaw07_BitsPuts.j1 (k + 1 + 1 + 1 + 1 + 1) l (n : Int) v r true false := by
      cases v <;> rfl
    rw [g1, undercroftlaw07_BitsPuts.j1, if_neg (by decide), if_pos rfl, get_f l hl (by omega) (n : Int) h2, Option.bind_some, getB_in hn, undercroftlaw07_BitsPuts.j2]
    have g2 : (if bitN l n = true then undercroftlaw07_BitsPuts.j3 (k + 1 + 1 + 1) l (n : Int) v r true 1 else undercroftlaw07_BitsPuts.j3 (k + 1 + 1 + 1) l (n : Int) v r true 0) = undercroftlaw07_BitsPuts.j3 (k + 1 + 1 + 1) l (n : Int) v r true (((bitN l n).toNat : Nat) : Int) := by
      cases bitN l n <;> rfl
    rw [g2, undercroftlaw07_BitsPuts.j3, if_pos rfl, undercroftlaw07_BitsPuts.j4]
    have g3 : (if v = true then undercroftlaw07_BitsPuts.j5 (k + 1) l (n : Int) r (((bitN l n).toNat : Nat) : Int) 1 else undercroftlaw07_BitsPuts.j5 (k + 1) l (n : Int) r (((bitN l n).toNat : Nat) : Int) 0) = undercroftlaw07_BitsPuts.j5 (k + 1) l (n : Int) r (((bitN l n).toNat : Nat) : Int) ((v.toNat : Nat) : Int) := by
      cases v <;> rfl
    rw [g3]
    refine puts_j5 l r hl hm (n : Int) h2 (bitN l n).toNat v.toNat h.u8 hlen ?_ (by cases bitN l n <;> decide) (by cases v <;> decide) ?_ k (by omega)
    · have := puts_cnt (p := bitN l) (q := bitN r) hn (fun i h1 h3 => by rw [h.bits i h1, if_neg (by omega)])
      rw [hb] at this
      exact this
    · intro s hs
      unfold IsPut at hs
      rw [if_pos (by omega), Int.toNat_natCast, getB_in hn] at hs
      refine bits_ext hl hs.u8 (by rw [hs.len, hlen]) (fun i hi => ?_)
      rw [hs.bits i (by omega), h.bits i hi]
      by_cases he : n ≤ i ∧ i < n + 1
      · rw [if_pos he, show i = n from by omega]
      · rw [if_neg he, if_neg he]
  · rw [decide_eq_false hin]
    unfold IsPut at h
    rw [if_neg hin] at h
    subst h
    have g := getB_out hin
    rw [undercroftlaw07_BitsPuts.j0, if_pos rfl, get_f r hl (by omega) a1 h2, Option.bind_some, g]
    have g1 : (if v = true then undercroftlaw07_BitsPuts.j1 (k + 1 + 1 + 1 + 1 + 1) r a1 v r false (false != false) else undercroftlaw07_BitsPuts.j1 (k + 1 + 1 + 1 + 1 + 1) r a1 v r false (false != false)) = undercroftlaw07_BitsPuts.j1 (k + 1 + 1 + 1 + 1 + 1) r a1 v r false false := by
      cases v <;> rfl
    rw [g1, undercroftlaw07_BitsPuts.j1, if_neg (by decide), if_neg (by decide), undercroftlaw07_BitsPuts.j2, if_neg (by decide), undercroftlaw07_BitsPuts.j3, if_neg (by decide), undercroftlaw07_BitsPuts.j4, if_neg (by decide)]
    refine puts_j5 r r hl hm a1 h2 0 0 hl rfl rfl (by decide) (by decide) ?_ k (by omega)
    intro s hs
    unfold IsPut at hs
    rw [if_neg hin] at hs
    exact hs
theorem BitsPuts : undercroftlaw07_BitsPuts.Pure := by
  intro l a1 a2 hmax hsz hwf h1
  have hl := X.u8all_wf hwf
  have hm : l.length ≤ 140737488351232 := by omega
  have h2 : a1 ≤ 9223372036854775807 := by
    simp [Lit.wf, IntKind.max, IntKind.min, IntKind.bits, IntKind.signed] at h1
    omega
  obtain ⟨r, hr, hP⟩ := put_f l hl hm a1 h2 a2 (8 * l.length + 40) (by omega)
  refine ⟨8 * l.length + 40, ?_⟩
  have hj := puts_j0 l r hl hm a1 h2 a2 hP (8 * l.length + 40) (by omega)
  unfold undercroftlaw07_BitsPuts.f
  rw [alive_true _ (by omega), Option.bind_some, if_pos rfl, hr, Option.bind_some, wrap8 l (by omega)]
  by_cases h3 : a1 ≥ 0
  · rw [if_pos h3, ← hj]
    congr 1
    rw [decide_eq_decide]
    constructor
    · intro h4; exact ⟨h3, h4⟩
    · intro h4; exact h4.2
  · rw [if_neg h3, ← hj]
    congr 1
    exact (decide_eq_false (fun h4 => h3 h4.1)).symm
end Go.Proofs.Ytlieacllpifhkaa.Pure
