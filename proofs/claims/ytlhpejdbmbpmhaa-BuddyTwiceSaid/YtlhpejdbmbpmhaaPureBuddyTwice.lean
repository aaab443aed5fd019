/- BuddyTwice: what is taken back was taken, is free then, and can't be taken back twice, at any map and span; no condition. -/
import Derived.Test.YtlhpejdbmbpmhaaUx27
import Derived.Test.YtlhpejdbmbpmhaaPBuddy4
namespace Go.Proofs.Ytlhpejdbmbpmhaa.Pure
open Go Go.RowKit Go.Proofs.Ytlhpejdbmbpmhaa.U Go.Proofs.YtlhpejdbmbpmhaaW.PrintWords Go.Proofs.YtlhpejdbmbpmhaaW.PrintLast Go.Proofs.YtlhpejdbmbpmhaaW.PrintMore
set_option linter.unusedVariables false
set_option linter.unusedSimpArgs false
open X (cntP firP)
theorem twice_cnt (l r : List Int) (n c m : Nat) (hn : n ≤ 8 * l.length) (hcm : c + m ≤ n) (hf : IsFill l c (c + m) false r) (h1 : ∀ i, c ≤ i → i < c + m → bitN l i = true) : cntP (bitN l) 0 n = cntP (bitN r) 0 n + m := by
  have cut : ∀ p : Nat → Bool, cntP p 0 n = cntP p 0 c + cntP p c m + cntP p (c + m) (n - (c + m)) := by
    intro p
    have e1 := X.cntP_add p 0 (c + m) (n - (c + m))
    have e2 := X.cntP_add p 0 c m
    rw [show c + m + (n - (c + m)) = n from by omega, Nat.zero_add] at e1
    rw [Nat.zero_add] at e2
    omega
  have e1 : cntP (bitN r) c m = 0 := X.cntP_zero.2 (fun i h2 h3 => by rw [hf.bits i (by omega), if_pos ⟨h2, h3⟩])
  have e2 : cntP (bitN l) c m = m := X.cntP_all.2 h1
  have e3 : cntP (bitN r) 0 c = cntP (bitN l) 0 c := X.cntP_congr (fun i _ h3 => by rw [hf.bits i (by omega), if_neg (by omega)])
  have e4 : cntP (bitN r) (c + m) (n - (c + m)) = cntP (bitN l) (c + m) (n - (c + m)) := X.cntP_congr (fun i h2 h3 => by rw [hf.bits i (by omega), if_neg (by omega)])
  rw [cut, cut, e1, e2, e3, e4]
  omega
theorem twice_l0 (l r : List Int) (hl : X.u8all l = true) (hm : l.length ≤ 140737488351232) (n c m : Nat) (x y : Int) (hn : n ≤ 8 * l.length) (hcm : c + m ≤ n) (hf : IsFill l c (c + m) false r) (h0 : ∀ i, c ≤ i → i < c + m → bitN l i = true) (hxy : y = wrap64 (x + (m : Int))) (d : Nat) : ∀ (k i : Nat), i + d = 8 * l.length → 2 * d < k →
    undercroftlaw08_BuddyTwice.l0 k l r x y 4 (i : Int) (c : Int) (m : Int) = some true := by
  have w8 := wrap8 l (by clear hxy; omega : l.length ≤ 140737488355328)
  have wcm : wrap64 ((c : Int) + (m : Int)) = ((c + m : Nat) : Int) := wrap_sum (by clear w8 hxy; omega)
  induction d with
  | zero =>
    intro k i hd hk
    have h1 : ¬ ((i : Int) < 8 * (l.length : Int)) := by clear w8 wcm hxy; omega
    obtain ⟨k, rfl⟩ : ∃ m, k = m + 1 := ⟨k - 1, by clear w8 wcm hxy; omega⟩
    rw [undercroftlaw08_BuddyTwice.l0, w8, if_neg h1, if_pos hxy]
    rfl
  | succ d ih =>
    intro k i hd hk
    have h1 : (i : Int) < 8 * (l.length : Int) := by clear w8 wcm hxy; omega
    obtain ⟨k, rfl⟩ : ∃ m, k = m + 1 + 1 := ⟨k - 2, by clear w8 wcm hxy; omega⟩
    have h2 : i < 8 * l.length := by clear w8 wcm hxy; omega
    have h3 : i + 1 ≤ 9223372036854775807 := by clear w8 wcm hxy; omega
    have g1 := get_f l hl (by clear w8 wcm hxy; omega) (i : Int) (by clear w8 wcm hxy; omega)
    have g2 := get_f r hf.u8 (by rw [hf.len]; clear w8 wcm hxy; omega) (i : Int) (by clear w8 wcm hxy; omega)
    rw [getB_in h2] at g1
    rw [getB_in (by rw [hf.len]; exact h2), hf.bits i h2] at g2
    have nxt := ih k (i + 1) (by clear w8 wcm hxy; omega) (by clear w8 wcm hxy; omega)
    have w1 : wrap64 ((i : Int) + 1) = ((i + 1 : Nat) : Int) := wrap_sum (b := 1) h3
    have no : ¬ (c ≤ i ∧ i < c + m) → undercroftlaw08_BuddyTwice.j1 (k + 1) l r x y 4 (i : Int) false (c : Int) (m : Int) = some true := by
      intro h
      rw [if_neg h] at g2
      rw [undercroftlaw08_BuddyTwice.j1, if_neg (by decide), g2, Option.bind_some, g1, Option.bind_some, bne_self_eq_false, if_neg (by decide), w1]
      exact nxt
    rw [undercroftlaw08_BuddyTwice.l0, w8, if_pos h1, wcm]
    by_cases h4 : (i : Int) ≥ (c : Int)
    · rw [if_pos h4]
      by_cases h5 : (i : Int) < ((c + m : Nat) : Int)
      · have h6 : c ≤ i ∧ i < c + m := by clear w8 wcm w1 hxy; omega
        rw [if_pos h6] at g2
        rw [h0 i h6.1 h6.2] at g1
        rw [decide_eq_true h5, undercroftlaw08_BuddyTwice.j1, if_pos rfl, g2, Option.bind_some, if_neg (by decide), g1, Option.bind_some, if_pos rfl, w1]
        exact nxt
      · rw [decide_eq_false h5]
        exact no (by clear w8 wcm w1 hxy; omega)
    · rw [if_neg h4]
      exact no (by clear w8 wcm w1 hxy; omega)
theorem BuddyTwice (l : List Int) (a s m : Int) (hwf : ∀ x ∈ l, (Lit.int .u8 x).wf = true) (hsz : l.length * 1 ≤ 140737488351232) (h1 : (Lit.int .i64 a).wf = true) (h2 : (Lit.int .i64 s).wf = true) (h3 : (Lit.int .i64 m).wf = true) : ∃ k, undercroftlaw08_BuddyTwice.f k l a s m = some true := by
  have hl := X.u8all_wf hwf
  have hm : l.length ≤ 140737488351232 := by omega
  obtain ⟨K, hK⟩ : ∃ K, K = 80 * l.length + 400 := ⟨_, rfl⟩
  obtain ⟨res, h4, _, h5⟩ := give_both l hl hm a s m (i64_wf h2) (i64_wf h3) K (by omega)
  obtain ⟨h6, _⟩ := free_f l hl hm a K (by omega)
  refine ⟨K, ?_⟩
  unfold undercroftlaw08_BuddyTwice.f
  rw [alive_true _ (by omega), Option.bind_some, if_pos rfl, h4, Option.bind_some]
  clear h4
  rcases h5 with ⟨_, rfl⟩ | ⟨hok, h5⟩
  · rfl
  obtain ⟨z1, z2, z3, z4, z5⟩ := hok
  obtain ⟨N, rfl⟩ : ∃ N : Nat, a = (N : Int) := ⟨a.toNat, by omega⟩
  obtain ⟨S, rfl⟩ : ∃ S : Nat, s = (S : Int) := ⟨s.toNat, by omega⟩
  obtain ⟨M, rfl⟩ : ∃ M : Nat, m = (M : Int) := ⟨m.toNat, by omega⟩
  rw [Int.toNat_natCast, Int.toNat_natCast] at h5
  rcases h5 with ⟨_, rfl⟩ | ⟨hall, r, hf, rfl⟩
  · rfl
  have hlen := hf.len
  obtain ⟨h7, _⟩ := free_f r hf.u8 (by rw [hlen]; exact hm) (N : Int) K (by rw [hlen]; omega)
  obtain ⟨res, h8, _, h9⟩ := give_both r hf.u8 (by rw [hlen]; exact hm) (N : Int) (S : Int) (M : Int) (i64_wf h2) (i64_wf h3) K (by rw [hlen]; omega)
  have ok : GiveOk r (N : Int) (S : Int) (M : Int) := ⟨by omega, by omega, by omega, by omega, by omega⟩
  rcases h9 with ⟨h9, _⟩ | ⟨_, h9⟩
  · exact absurd ok h9
  rw [Int.toNat_natCast, Int.toNat_natCast] at h9
  rcases h9 with ⟨_, rfl⟩ | ⟨h9, _⟩
  rotate_left
  · have := h9 S (Nat.le_refl _) (by omega)
    rw [hf.bits S (by omega), if_pos ⟨Nat.le_refl _, by omega⟩] at this
    cases this
  rw [if_pos rfl, h6, Option.bind_some, h7, Option.bind_some, h8, Option.bind_some]
  clear h6 h7 h8
  have hc := twice_cnt l r N S M (by omega) (by omega) hf hall
  have hle := X.cntP_le (bitN l) 0 N
  refine twice_l0 l r hl hm N S M _ _ (by omega) (by omega) hf hall ?_ (8 * l.length) K 0 (by omega) (by omega)
  rw [freeI_in (by omega : N ≤ 8 * l.length), freeI_in (by omega : N ≤ 8 * r.length)]
  dsimp only
  rw [wrap_sum (by omega)]
  omega
end Go.Proofs.Ytlhpejdbmbpmhaa.Pure
