/- BuddyFree: what is given was free, no other block is turned, and giving it back makes the map that was, at any map and wish; no condition. -/
import Derived.Test.YtlhpejdbmbpmhaaUx26
import Derived.Test.YtlhpejdbmbpmhaaPBuddy4
namespace Go.Proofs.Ytlhpejdbmbpmhaa.Pure
open Go Go.RowKit Go.Proofs.Ytlhpejdbmbpmhaa.U Go.Proofs.YtlhpejdbmbpmhaaW.PrintWords Go.Proofs.YtlhpejdbmbpmhaaW.PrintLast Go.Proofs.YtlhpejdbmbpmhaaW.PrintMore
set_option linter.unusedVariables false
set_option linter.unusedSimpArgs false
open X (cntP firP)
theorem free_end (l r : List Int) (hl : X.u8all l = true) (hm : l.length ≤ 140737488351232) (n c m : Nat) (hn : n ≤ 8 * l.length) (hm1 : 1 ≤ m) (hcm : c + m ≤ n) (hf : IsFill l c (c + m) true r) (h0 : ∀ i, c ≤ i → i < c + m → bitN l i = false) (k : Nat) (hk : 8 * l.length + 10 < k) :
    buddy_Give.f k r (n : Int) (c : Int) (m : Int) = some (l, 0) := by
  obtain ⟨res, h1, _, h2⟩ := give_both r hf.u8 (by rw [hf.len]; exact hm) (n : Int) (c : Int) (m : Int) ⟨by omega, by omega⟩ ⟨by omega, by omega⟩ k (by rw [hf.len]; exact hk)
  have hlen := hf.len
  have ok : GiveOk r (n : Int) (c : Int) (m : Int) := ⟨by omega, by omega, by omega, by omega, by omega⟩
  rcases h2 with ⟨h2, _⟩ | ⟨_, h2⟩
  · exact absurd ok h2
  rw [Int.toNat_natCast, Int.toNat_natCast] at h2
  have hall : ∀ i, c ≤ i → i < c + m → bitN r i = true := fun i h3 h4 => by rw [hf.bits i (by omega), if_pos ⟨h3, h4⟩]
  rcases h2 with ⟨h2, _⟩ | ⟨_, s, h3, rfl⟩
  · exact absurd hall h2
  have : s = l := bits_ext hl h3.u8 (by rw [h3.len, hlen]) (fun i hi => by
    rw [h3.bits i (by rw [hlen]; exact hi), hf.bits i hi]
    by_cases h : c ≤ i ∧ i < c + m
    · rw [if_pos h, h0 i h.1 h.2]
    · rw [if_neg h, if_neg h])
  rw [h1, this]
theorem free_l0 (l r : List Int) (hl : X.u8all l = true) (hm : l.length ≤ 140737488351232) (n c m : Nat) (w g : Int) (hn : n ≤ 8 * l.length) (hm1 : 1 ≤ m) (hcm : c + m ≤ n) (hf : IsFill l c (c + m) true r) (h0 : ∀ i, c ≤ i → i < c + m → bitN l i = false) (d : Nat) : ∀ (k i : Nat), i + d = 8 * l.length → 2 * d + 8 * l.length + 12 < k →
    undercroftlaw08_BuddyFree.l0 k l r (i : Int) (n : Int) w g (c : Int) (m : Int) = some true := by
  have w8 := wrap8 l (by omega : l.length ≤ 140737488355328)
  have wcm : wrap64 ((c : Int) + (m : Int)) = ((c + m : Nat) : Int) := wrap_sum (by clear w8; omega)
  induction d with
  | zero =>
    intro k i hd hk
    have h1 : ¬ ((i : Int) < 8 * (l.length : Int)) := by clear w8 wcm; omega
    obtain ⟨k, rfl⟩ : ∃ m, k = m + 1 := ⟨k - 1, by clear w8 wcm; omega⟩
    have h2 := free_end l r hl hm n c m hn hm1 hcm hf h0 k (by clear w8 wcm; omega)
    rw [undercroftlaw08_BuddyFree.l0, w8, if_neg h1, h2, Option.bind_some, if_pos rfl]
    simp
  | succ d ih =>
    intro k i hd hk
    have h1 : (i : Int) < 8 * (l.length : Int) := by clear w8 wcm; omega
    obtain ⟨k, rfl⟩ : ∃ m, k = m + 1 + 1 := ⟨k - 2, by clear w8 wcm; omega⟩
    have h2 : i < 8 * l.length := by clear w8 wcm; omega
    have h3 : i + 1 ≤ 9223372036854775807 := by clear w8 wcm; omega
    have g1 := get_f l hl (by clear w8 wcm; omega) (i : Int) (by clear w8 wcm; omega)
    have g2 := get_f r hf.u8 (by rw [hf.len]; clear w8 wcm; omega) (i : Int) (by clear w8 wcm; omega)
    rw [getB_in h2] at g1
    rw [getB_in (by rw [hf.len]; exact h2), hf.bits i h2] at g2
    have nxt := ih k (i + 1) (by clear w8 wcm; omega) (by clear w8 wcm; omega)
    have w1 : wrap64 ((i : Int) + 1) = ((i + 1 : Nat) : Int) := wrap_sum (b := 1) h3
    have no : ¬ (c ≤ i ∧ i < c + m) → undercroftlaw08_BuddyFree.j2 (k + 1) l r (i : Int) false (n : Int) w g (c : Int) (m : Int) = some true := by
      intro h
      rw [if_neg h] at g2
      rw [undercroftlaw08_BuddyFree.j2, if_neg (by decide), g1, Option.bind_some, g2, Option.bind_some, bne_self_eq_false, if_neg (by decide), w1]
      exact nxt
    rw [undercroftlaw08_BuddyFree.l0, w8, if_pos h1, wcm]
    by_cases h4 : (i : Int) ≥ (c : Int)
    · rw [if_pos h4]
      by_cases h5 : (i : Int) < ((c + m : Nat) : Int)
      · have h6 : c ≤ i ∧ i < c + m := by clear w8 wcm w1; omega
        rw [if_pos h6] at g2
        rw [h0 i h6.1 h6.2] at g1
        rw [decide_eq_true h5, undercroftlaw08_BuddyFree.j2, if_pos rfl, g1, Option.bind_some, if_neg (by decide), g2, Option.bind_some, if_pos rfl, w1]
        exact nxt
      · rw [decide_eq_false h5]
        exact no (by clear w8 wcm w1; omega)
    · rw [if_neg h4]
      exact no (by clear w8 wcm w1; omega)
theorem BuddyFree (l : List Int) (a b g : Int) (hwf : ∀ x ∈ l, (Lit.int .u8 x).wf = true) (hsz : l.length * 1 ≤ 140737488351232) (h1 : (Lit.int .i64 a).wf = true) (h2 : (Lit.int .i64 b).wf = true) (h3 : (Lit.int .i64 g).wf = true) : ∃ k, undercroftlaw08_BuddyFree.f k l a b g = some true := by
  have hl := X.u8all_wf hwf
  have hm : l.length ≤ 140737488351232 := by omega
  obtain ⟨K, hK⟩ : ∃ K, K = 80 * l.length + 400 := ⟨_, rfl⟩
  obtain ⟨res, h4, _, h5⟩ := take_both l hl hm a b g K (by omega)
  obtain ⟨h6, _⟩ := free_f l hl hm a K (by omega)
  refine ⟨K, ?_⟩
  unfold undercroftlaw08_BuddyFree.f
  rw [alive_true _ (by omega), Option.bind_some, if_pos rfl, h4, Option.bind_some, h6, Option.bind_some]
  clear h4 h6
  rcases h5 with ⟨_, rfl⟩ | ⟨hok, h5⟩
  · rfl
  obtain ⟨z1, z2, z3, z4, z5⟩ := hok
  obtain ⟨N, rfl⟩ : ∃ N : Nat, a = (N : Int) := ⟨a.toNat, by omega⟩
  obtain ⟨W, rfl⟩ : ∃ W : Nat, b = (W : Int) := ⟨b.toNat, by omega⟩
  rw [Int.toNat_natCast, Int.toNat_natCast] at h5
  rw [freeI_in (by omega : N ≤ 8 * l.length)]
  rcases h5 with ⟨rfl, hno⟩ | ⟨o, c, s, q1, q2, q3, q4, q5, rfl⟩
  · have : cntP (bitN l) 0 N = N := X.cntP_all.2 (fun i _ h => by
      have h7 := hno 0 (Nat.succ_pos _) i (Nat.mod_one _)
      cases hb : bitN l i
      · have : freeB l N i 0 = true := freeB_iff.2 ⟨by rw [Nat.pow_zero]; omega, fun j h8 h9 => by rw [Nat.pow_zero] at h9; rw [show j = i from by omega]; exact hb⟩
        rw [this] at h7
        cases h7
      · rfl)
    rw [this, Nat.sub_self]
    rfl
  obtain ⟨f1, f2⟩ := freeB_iff.1 q3
  obtain ⟨u1, u2, u3⟩ := ordN_le (want := W) (by omega) (by omega)
  have hpo := pow6 o (by omega)
  obtain ⟨M, hM⟩ : ∃ M, M = min W (2 ^ o) := ⟨_, rfl⟩
  have hM1 : 1 ≤ M := by omega
  have hM2 : M ≤ W := by omega
  have hM3 : M ≤ 2 ^ o := by omega
  rw [← hM] at q5 ⊢
  clear hM
  have hcm : c + M ≤ N := by omega
  have h0 : ∀ i, c ≤ i → i < c + M → bitN l i = false := fun i h7 h8 => f2 i h7 (by omega)
  have hle := X.cntP_le (bitN l) 0 N
  have hne : ¬ (((N - cntP (bitN l) 0 N : Nat) : Int) = 0) := by
    intro h
    have h7 : cntP (bitN l) 0 N = N := by omega
    have := X.cntP_all.1 h7 c (Nat.zero_le _) (by omega)
    rw [h0 c (Nat.le_refl _) (by omega)] at this
    cases this
  have hNM : ¬ ((c : Int) > wrap64 ((N : Int) - (M : Int))) := by
    rw [wrap_id (by omega) (by omega)]
    omega
  have g1 : ¬ ((M : Int) < 1) := by omega
  have g2 : ¬ ((M : Int) > (W : Int)) := by omega
  have g3 : ¬ ((c : Int) < 0) := by omega
  dsimp only
  rw [if_neg (by decide), if_pos rfl, if_pos rfl, if_neg hne, if_neg g1, if_neg g2, if_neg g3, if_neg hNM, q5.len, bne_self_eq_false]
  obtain ⟨K', hK'⟩ : ∃ m, K = m + 1 := ⟨K - 1, by omega⟩
  rw [hK', undercroftlaw08_BuddyFree.j0, if_neg (by decide)]
  exact free_l0 l s hl hm N c M (W : Int) g (by omega) hM1 hcm q5 h0 (8 * l.length) K' 0 (by omega) (by omega)
end Go.Proofs.Ytlhpejdbmbpmhaa.Pure
