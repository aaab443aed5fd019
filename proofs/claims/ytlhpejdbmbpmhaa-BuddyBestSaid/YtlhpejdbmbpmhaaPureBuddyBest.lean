/- BuddyBest: what is given is as long as was wanted, unless no free chunk is so long, and begins where a chunk does, at any map and wish; no condition. -/
import Derived.Test.YtlhpejdbmbpmhaaUx15
import Derived.Test.YtlhpejdbmbpmhaaPBuddy4
import Derived.Test.YtlhpejdbmbpmhaaPBuddy6
namespace Go.Proofs.Ytlhpejdbmbpmhaa.Pure
open Go Go.RowKit Go.Proofs.Ytlhpejdbmbpmhaa.U Go.Proofs.YtlhpejdbmbpmhaaW.PrintWords Go.Proofs.YtlhpejdbmbpmhaaW.PrintLast Go.Proofs.YtlhpejdbmbpmhaaW.PrintMore
set_option linter.unusedVariables false
set_option linter.unusedSimpArgs false
open X (cntP firP)
/-- b is the greatest of the first j numbers at which there is one; -1: none. -/
def IsBest (f : Nat → Nat) (j : Nat) (b : Int) : Prop := (b = -1 ∧ ∀ i, i < j → f i = 0) ∨ ∃ o : Nat, b = (o : Int) ∧ o < j ∧ 0 < f o ∧ ∀ i, o < i → i < j → f i = 0
theorem best_l1 (r : List Int) (f : Nat → Nat) (hr : r.length = 7) (hf : ∀ j : Nat, j ≤ 6 → rd r (j : Int) = (f j : Int)) (x n w g c m : Int) (fin : ∀ k b, IsBest f 7 b → undercroftlaw08_BuddyBest.l1 (k + 1) r x b 7 n w g c m = some true) (d : Nat) :
    ∀ (k j : Nat) (b : Int), j + d = 7 → d < k → IsBest f j b → undercroftlaw08_BuddyBest.l1 k r x b (j : Int) n w g c m = some true := by
  induction d with
  | zero =>
    intro k j b hd hk hb
    obtain ⟨k, rfl⟩ : ∃ m, k = m + 1 := ⟨k - 1, by omega⟩
    obtain rfl : j = 7 := by omega
    exact fin k b hb
  | succ d ih =>
    intro k j b hd hk hb
    obtain ⟨k, rfl⟩ : ∃ m, k = m + 1 := ⟨k - 1, by omega⟩
    have h1 : (j : Int) < (r.length : Int) := by omega
    have h2 : j ≤ 6 := by omega
    have w2 : wrap64 ((j : Int) + 1) = ((j + 1 : Nat) : Int) := wrap_sum (b := 1) (Nat.le_trans (Nat.add_le_add_right h2 1) (by decide))
    rw [undercroftlaw08_BuddyBest.l1, if_pos h1, if_pos (Int.natCast_nonneg j), hf j h2, w2]
    clear w2
    by_cases hp : (f j : Int) > 0
    · rw [if_pos hp]
      exact ih k (j + 1) (j : Int) (by omega) (by omega) (.inr ⟨j, rfl, by omega, by omega, fun i h3 h4 => by omega⟩)
    · rw [if_neg hp]
      have h0 : f j = 0 := by omega
      refine ih k (j + 1) b (by omega) (by omega) ?_
      rcases hb with ⟨h3, h4⟩ | ⟨o, h3, h4, h5, h6⟩
      · refine .inl ⟨h3, fun i hi => ?_⟩
        by_cases e : i = j
        · rw [e]; exact h0
        · exact h4 i (by omega)
      · refine .inr ⟨o, h3, by omega, h5, fun i hi hi' => ?_⟩
        by_cases e : i = j
        · rw [e]; exact h0
        · exact h6 i hi (by omega)
theorem best_l0 (r : List Int) (n : Int) (want : Nat) (h1 : 1 ≤ want) (h64 : want ≤ 64) (g c m : Int) (k d : Nat) : ∀ j, j + d = ordN want →
    undercroftlaw08_BuddyBest.l0 (d + 1 + k) r (j : Int) n (want : Int) g c m = undercroftlaw08_BuddyBest.l1 k r ((ordN want : Nat) : Int) (-1) 0 n (want : Int) g c m := by
  obtain ⟨h2, h3, h4⟩ := ordN_le h64 h1
  induction d with
  | zero =>
    intro j hj
    obtain rfl : j = ordN want := by omega
    rw [show 0 + 1 + k = k + 1 from by omega, undercroftlaw08_BuddyBest.l0, if_pos (by omega), shlw _ h2, if_neg (by omega)]
  | succ d ih =>
    intro j hj
    have h5 := h4 j (by omega)
    have h6 : j ≤ 6 := by omega
    have w2 : wrap64 ((j : Int) + 1) = ((j + 1 : Nat) : Int) := wrap_sum (b := 1) (Nat.le_trans (Nat.add_le_add_right h6 1) (by decide))
    rw [show d + 1 + 1 + k = d + 1 + k + 1 from by omega, undercroftlaw08_BuddyBest.l0, if_pos (Int.natCast_nonneg j), shlw _ h6, if_pos (Int.ofNat_lt.2 h5), w2]
    exact ih (j + 1) (by omega)
theorem BuddyBest (l : List Int) (a b g : Int) (hwf : ∀ x ∈ l, (Lit.int .u8 x).wf = true) (hsz : l.length * 1 ≤ 140737488351232) (h1 : (Lit.int .i64 a).wf = true) (h2 : (Lit.int .i64 b).wf = true) (h3 : (Lit.int .i64 g).wf = true) : ∃ k, undercroftlaw08_BuddyBest.f k l a b g = some true := by
  have hl := X.u8all_wf hwf
  have hm : l.length ≤ 140737488351232 := by omega
  obtain ⟨K, hK⟩ : ∃ K, K = 80 * l.length + 400 := ⟨_, rfl⟩
  obtain ⟨res, h4, _, h5⟩ := take_both l hl hm a b g K (by omega)
  refine ⟨K, ?_⟩
  unfold undercroftlaw08_BuddyBest.f
  have bad : ∀ x c m, undercroftlaw08_BuddyBest.j0 K x true a b g c m = some true := by
    intro x c m
    obtain ⟨K', rfl⟩ : ∃ m, K = m + 1 := ⟨K - 1, by omega⟩
    rw [undercroftlaw08_BuddyBest.j0, if_pos rfl]
  obtain ⟨r, e, h8, h9⟩ : ∃ r e, buddy_Orders.f K l a = some (r, e) ∧ (0 ≤ a ∧ a ≤ 8 * (l.length : Int) → e = 0 ∧ Cnt l a.toNat r a.toNat) := by
    rcases orders_both l hl hm a K (by omega) with ⟨hp, h, h'⟩ | ⟨hp, r, h, h', hc⟩
    · exact ⟨_, _, h, fun h => absurd h hp⟩
    · exact ⟨_, _, h, fun _ => ⟨rfl, hc⟩⟩
  rw [alive_true _ (by omega), Option.bind_some, if_pos rfl, h4, Option.bind_some, h8, Option.bind_some]
  rcases h5 with ⟨_, rfl⟩ | ⟨hok, h5⟩
  · rw [if_neg (by decide)]
    exact bad _ _ _
  rcases h5 with ⟨rfl, _⟩ | ⟨o, c, s, q1, q2, q3, q4, q5, rfl⟩
  · rw [if_neg (by decide)]
    exact bad _ _ _
  rw [if_pos rfl]
  clear bad h4
  obtain ⟨z1, z2, z3, z4, z5⟩ := hok
  obtain ⟨rfl, hc⟩ := h9 ⟨z1, z2⟩
  obtain ⟨N, rfl⟩ : ∃ N : Nat, a = (N : Int) := ⟨a.toNat, by omega⟩
  obtain ⟨W, rfl⟩ : ∃ W : Nat, b = (W : Int) := ⟨b.toNat, by omega⟩
  simp only [Int.toNat_natCast] at q1 q3 q4 q5 hc ⊢
  have hW1 : 1 ≤ W := by omega
  have hW2 : W ≤ 64 := by omega
  obtain ⟨u1, u2, u3⟩ := ordN_le hW2 hW1
  have fin : ∀ k b, IsBest (fun j => cntP (maxB l N j) 0 N) 7 b → undercroftlaw08_BuddyBest.l1 (k + 1) r ((ordN W : Nat) : Int) b 7 (N : Int) (W : Int) g (c : Int) ((min W (2 ^ o) : Nat) : Int) = some true := by
    intro k b hb
    obtain ⟨j, c', v1, v2, v3⟩ := max_over l N (6 - o) o c (by omega) q2 q3
    have hj : 0 < cntP (maxB l N j) 0 N := maxB_pos.2 ⟨c', v3⟩
    rcases hb with ⟨_, hb⟩ | ⟨p, rfl, hp1, hp2, hp3⟩
    · have := hb j (by omega)
      dsimp only at this
      omega
    dsimp only at hp2
    obtain ⟨c2, hc2⟩ := maxB_pos.1 hp2
    obtain ⟨t1, t2⟩ := maxB_free hc2
    have hjp : j ≤ p := by
      rcases Nat.lt_or_ge p j with h | h
      · have := hp3 j h (by omega)
        dsimp only at this
        omega
      · exact h
    have ho : o = min (ordN W) p := by
      by_cases h : ordN W ≤ p
      · rw [Nat.min_eq_left h]
        rcases Nat.lt_or_ge o (ordN W) with h' | h'
        · have := q4 (ordN W) h' (Nat.lt_succ_self _) c2 (dvd_down t1 h)
          rw [freeB_sub t2 (Nat.le_refl _) (Nat.add_le_add_left (Nat.pow_le_pow_right (by decide) h) _)] at this
          cases this
        · omega
      · rw [Nat.min_eq_right (by omega)]
        rcases Nat.lt_or_ge o p with h' | h'
        · rw [q4 p h' (by omega) c2 t1] at t2
          cases t2
        · omega
    have hr : ¬ ((7 : Int) < (r.length : Int)) := by rw [hc.1]; decide
    have ho6 : o ≤ 6 := by omega
    have hpo := pow6 o ho6
    rw [undercroftlaw08_BuddyBest.l1, if_neg hr, mn_nat, ← ho, if_pos (Int.natCast_nonneg o), shlw o ho6, mn_nat, if_pos rfl, if_neg (by omega)]
    have hmod : Int.tmod (c : Int) ((2 ^ o : Nat) : Int) = ((c % 2 ^ o : Nat) : Int) := rfl
    rw [hmod, q2]
    rfl
  obtain ⟨K', hK'⟩ : ∃ m, K = m + 1 := ⟨K - 1, by omega⟩
  obtain ⟨K2, hK2⟩ : ∃ m, K' = ordN W + 1 + m := ⟨K' - (ordN W + 1), by omega⟩
  have e0 := best_l0 r (N : Int) W hW1 hW2 g (c : Int) ((min W (2 ^ o) : Nat) : Int) K2 (ordN W) 0 (by omega)
  rw [← hK2] at e0
  replace e0 : undercroftlaw08_BuddyBest.l0 K' r 0 (N : Int) (W : Int) g (c : Int) ((min W (2 ^ o) : Nat) : Int) = undercroftlaw08_BuddyBest.l1 K2 r ((ordN W : Nat) : Int) (-1) 0 (N : Int) (W : Int) g (c : Int) ((min W (2 ^ o) : Nat) : Int) := e0
  rw [hK', undercroftlaw08_BuddyBest.j0, if_neg (by decide)]
  exact e0.trans (best_l1 r _ hc.1 hc.2 _ _ _ _ _ _ fin 7 K2 0 (-1) (by decide) (by omega) (.inl ⟨rfl, fun i h => absurd h (Nat.not_lt_zero _)⟩))
end Go.Proofs.Ytlhpejdbmbpmhaa.Pure
