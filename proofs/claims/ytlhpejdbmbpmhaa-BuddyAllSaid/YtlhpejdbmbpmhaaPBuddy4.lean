/- Give and Free as wholes. -/
import Derived.Test.YtlhpejdbmbpmhaaUx6
import Derived.Test.YtlhpejdbmbpmhaaUx8
import Derived.Test.YtlhpejdbmbpmhaaUx13
import Derived.Test.YtlhpejdbmbpmhaaUx18
import Derived.Test.YtlhpejdbmbpmhaaUx19
import Derived.Test.YtlhpejdbmbpmhaaUx20
import Derived.Test.YtlhpejdbmbpmhaaUx22
import Derived.Test.YtlhpejdbmbpmhaaPBuddy3
namespace Go.Proofs.Ytlhpejdbmbpmhaa.Pure
open Go Go.RowKit Go.Proofs.Ytlhpejdbmbpmhaa.U Go.Proofs.YtlhpejdbmbpmhaaW.PrintWords Go.Proofs.YtlhpejdbmbpmhaaW.PrintLast Go.Proofs.YtlhpejdbmbpmhaaW.PrintMore
set_option linter.unusedVariables false
set_option linter.unusedSimpArgs false
open X (cntP firP)
theorem alive_60 : undercroftlaw08_alive.f 60 = some true := by decide +kernel
theorem alive_true (k : Nat) (hk : 60 ≤ k) : undercroftlaw08_alive.f k = some true := at_rounds (g := undercroftlaw08_alive.f) undercroftlaw08_alive.mono hk alive_60
/-- What is given back lies in the bounds. -/
def GiveOk (l : List Int) (n s m : Int) : Prop := 0 ≤ n ∧ n ≤ 8 * (l.length : Int) ∧ 1 ≤ m ∧ 0 ≤ s ∧ s + m ≤ n
/-- What Give answers behind its conditions. -/
def Gave (l : List Int) (s m : Nat) (res : List Int × Int) : Prop :=
  ((¬ ∀ i, s ≤ i → i < s + m → bitN l i = true) ∧ res = ([], 4)) ∨ ((∀ i, s ≤ i → i < s + m → bitN l i = true) ∧ ∃ r, IsFill l s (s + m) false r ∧ res = (r, 0))
theorem gave_both (l : List Int) (hl : X.u8all l = true) (hm : l.length ≤ 140737488351232) (s m : Nat) (h : s + m ≤ 8 * l.length) (k : Nat) (hk : 8 * l.length + 3 < k) :
    ∃ res, buddy_Give.j0 k l false (s : Int) (m : Int) = some res ∧ undercroftref08_Give.j0 k l false (s : Int) (m : Int) = some res ∧ Gave l s m res := by
  obtain ⟨k, rfl⟩ : ∃ m, k = m + 1 := ⟨k - 1, by omega⟩
  have w : wrap64 ((s : Int) + (m : Int)) = ((s + m : Nat) : Int) := by rw [wrap_id (by omega) (by omega)]; rfl
  rw [buddy_Give.j0, undercroftref08_Give.j0, if_neg (by decide), if_neg (by decide), w, first_f l hl (by omega) (s : Int) ((s + m : Nat) : Int) false k (by omega), refCount_f l hl (by omega) (s : Int) ((s + m : Nat) : Int) k (by omega), Option.bind_some, Option.bind_some, loN_nat, hiN_nat h, show s + m - s = m from by omega]
  clear w
  obtain ⟨r, h10, h11⟩ := fill_f l hl hm (s : Int) ((s + m : Nat) : Int) false k (by omega)
  obtain ⟨r', h12, h13⟩ := refFill_f l hl hm (s : Int) ((s + m : Nat) : Int) false k (by omega)
  have := h11.uniq h13
  subst this
  rw [loN_nat, hiN_nat h] at h11
  rw [h10, h12, Option.bind_some]
  by_cases ha : ∀ i, s ≤ i → i < s + m → bitN l i = true
  · have e1 : firP (fun i => bitN l i == false) s m = none := X.firP_none.2 (fun i h1 h2 => by rw [ha i h1 h2]; rfl)
    have e2 : cntP (bitN l) s m = m := X.cntP_all.2 ha
    rw [e1, e2, if_neg (by unfold firI; decide), if_pos rfl]
    exact ⟨_, rfl, rfl, .inr ⟨ha, r, h11, rfl⟩⟩
  · have e2 : cntP (bitN l) s m ≠ m := fun h => ha (X.cntP_all.1 h)
    rw [if_neg (fun h : ((cntP (bitN l) s m : Nat) : Int) = (m : Int) => e2 (by omega))]
    cases hf : firP (fun i => bitN l i == false) s m with
    | none => exact absurd (fun i h1 h2 => by
        have := X.firP_none.1 hf i h1 h2
        cases hb : bitN l i
        · rw [hb] at this; cases this
        · rfl) ha
    | some i =>
      rw [if_pos (by unfold firI; simp)]
      exact ⟨_, rfl, rfl, .inl ⟨ha, rfl⟩⟩
theorem give_both (l : List Int) (hl : X.u8all l = true) (hm : l.length ≤ 140737488351232) (n s m : Int) (hs : -9223372036854775808 ≤ s ∧ s ≤ 9223372036854775807) (hmm : -9223372036854775808 ≤ m ∧ m ≤ 9223372036854775807) (k : Nat) (hk : 8 * l.length + 10 < k) :
    ∃ res, buddy_Give.f k l n s m = some res ∧ undercroftref08_Give.f k l n s m = some res ∧ ((¬ GiveOk l n s m ∧ res = ([], 1)) ∨ (GiveOk l n s m ∧ Gave l s.toNat m.toNat res)) := by
  unfold buddy_Give.f undercroftref08_Give.f
  rw [pool_new l (by omega), refpool l (by omega), Option.bind_some, Option.bind_some]
  have badA : buddy_Give.j0 k l true s m = some ([], 1) := by
    obtain ⟨k, rfl⟩ : ∃ m, k = m + 1 := ⟨k - 1, by omega⟩
    rw [buddy_Give.j0, if_pos rfl]
  have badB : undercroftref08_Give.j0 k l true s m = some ([], 1) := by
    obtain ⟨k, rfl⟩ : ∃ m, k = m + 1 := ⟨k - 1, by omega⟩
    rw [undercroftref08_Give.j0, if_pos rfl]
  by_cases hp : 0 ≤ n ∧ n ≤ 8 * (l.length : Int)
  rotate_left
  · rw [if_neg hp, decide_eq_false hp]
    rw [if_neg (by decide), if_neg (by decide), badA, badB]
    exact ⟨_, rfl, rfl, .inl ⟨fun h => hp ⟨h.1, h.2.1⟩, rfl⟩⟩
  rw [if_pos hp, decide_eq_true hp, if_pos rfl, if_pos rfl]
  by_cases h1 : m < 1
  · rw [if_pos h1, if_pos h1, badA, badB]
    exact ⟨_, rfl, rfl, .inl ⟨fun h => by have := h.2.2.1; omega, rfl⟩⟩
  rw [if_neg h1, if_neg h1]
  by_cases h2 : s < 0
  · rw [if_pos h2, if_pos h2, badA, badB]
    exact ⟨_, rfl, rfl, .inl ⟨fun h => by have := h.2.2.2.1; omega, rfl⟩⟩
  rw [if_neg h2, if_neg h2]
  have w1 : wrap64 (n - s) = n - s := wrap_id (by omega) (by omega)
  have w2 : wrap64 (n - m) = n - m := wrap_id (by omega) (by omega)
  rw [w1, w2]
  clear w1 w2
  by_cases h3 : s + m ≤ n
  · have e1 : decide (m > n - s) = false := decide_eq_false (by omega)
    have e2 : decide (s > n - m) = false := decide_eq_false (by omega)
    rw [if_neg (by omega), if_neg (by omega), e1, e2]
    obtain ⟨S, rfl⟩ : ∃ S : Nat, s = (S : Int) := ⟨s.toNat, by omega⟩
    obtain ⟨M, rfl⟩ : ∃ M : Nat, m = (M : Int) := ⟨m.toNat, by omega⟩
    obtain ⟨res, h4, h5, h6⟩ := gave_both l hl hm S M (by omega) k (by omega)
    exact ⟨res, h4, h5, .inr ⟨⟨by omega, by omega, by omega, by omega, by omega⟩, by rw [Int.toNat_natCast, Int.toNat_natCast]; exact h6⟩⟩
  · have no : ¬ GiveOk l n s m := fun h => by have := h.2.2.2.2; omega
    by_cases h4 : s > n
    · rw [if_pos h4, badA]
      by_cases h5 : m > n
      · rw [if_pos h5, badB]
        exact ⟨_, rfl, rfl, .inl ⟨no, rfl⟩⟩
      · rw [if_neg h5, decide_eq_true (by omega), badB]
        exact ⟨_, rfl, rfl, .inl ⟨no, rfl⟩⟩
    · rw [if_neg h4, decide_eq_true (by omega), badA]
      by_cases h5 : m > n
      · rw [if_pos h5, badB]
        exact ⟨_, rfl, rfl, .inl ⟨no, rfl⟩⟩
      · rw [if_neg h5, decide_eq_true (by omega), badB]
        exact ⟨_, rfl, rfl, .inl ⟨no, rfl⟩⟩
/-- What Free answers. -/
def freeI (l : List Int) (n : Int) : Int × Int := if 0 ≤ n ∧ n ≤ 8 * (l.length : Int) then (((n.toNat - cntP (bitN l) 0 n.toNat : Nat) : Int), 0) else (0, 1)
theorem freeI_in {l : List Int} {N : Nat} (h : N ≤ 8 * l.length) : freeI l (N : Int) = (((N - cntP (bitN l) 0 N : Nat) : Int), 0) := by
  unfold freeI
  rw [if_pos (by omega), Int.toNat_natCast]
theorem free_f (l : List Int) (hl : X.u8all l = true) (hm : l.length ≤ 140737488351232) (n : Int) (k : Nat) (hk : 8 * l.length + 3 < k) : buddy_Free.f k l n = some (freeI l n) ∧ undercroftref08_Free.f k l n = some (freeI l n) := by
  unfold buddy_Free.f undercroftref08_Free.f freeI
  rw [pool_new l (by omega), refpool l (by omega), Option.bind_some, Option.bind_some]
  by_cases hp : 0 ≤ n ∧ n ≤ 8 * (l.length : Int)
  · obtain ⟨N, rfl⟩ : ∃ N : Nat, n = (N : Int) := ⟨n.toNat, by omega⟩
    rw [if_pos hp, decide_eq_true hp, if_pos hp, if_pos rfl, if_pos rfl, count_f l hl (by omega) 0 (N : Int) k (by omega), refCount_f l hl (by omega) 0 (N : Int) k (by omega), Option.bind_some, hiN_nat (by omega), show loN 0 = 0 from rfl, Nat.sub_zero, Int.toNat_natCast]
    have hle := X.cntP_le (bitN l) 0 N
    have w : wrap64 ((N : Int) - ((cntP (bitN l) 0 N : Nat) : Int)) = ((N - cntP (bitN l) 0 N : Nat) : Int) := by rw [wrap_id (by omega) (by omega)]; omega
    rw [w]
    exact ⟨rfl, rfl⟩
  · rw [if_neg hp, decide_eq_false hp, if_neg hp, if_neg (by decide), if_neg (by decide)]
    exact ⟨rfl, rfl⟩
theorem i64_wf {n : Int} (h : (Lit.int .i64 n).wf = true) : -9223372036854775808 ≤ n ∧ n ≤ 9223372036854775807 := by
  simp [Lit.wf, IntKind.max, IntKind.min, IntKind.bits, IntKind.signed] at h
  omega
theorem wrap_sum {a b : Nat} (h : a + b ≤ 9223372036854775807) : wrap64 ((a : Int) + (b : Int)) = ((a + b : Nat) : Int) := by
  rw [wrap_id (by omega) (by omega)]
  rfl
end Go.Proofs.Ytlhpejdbmbpmhaa.Pure
