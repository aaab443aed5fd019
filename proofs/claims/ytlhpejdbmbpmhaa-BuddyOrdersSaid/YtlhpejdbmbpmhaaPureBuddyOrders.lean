/- BuddyOrders: the free chunks of all orders have just the free blocks together, at any map; no condition. -/
import Derived.Test.YtlhpejdbmbpmhaaUx18
import Derived.Test.YtlhpejdbmbpmhaaPBuddy4
import Derived.Test.YtlhpejdbmbpmhaaPBuddy6
namespace Go.Proofs.Ytlhpejdbmbpmhaa.Pure
open Go Go.RowKit Go.Proofs.Ytlhpejdbmbpmhaa.U Go.Proofs.YtlhpejdbmbpmhaaW.PrintWords Go.Proofs.YtlhpejdbmbpmhaaW.PrintLast Go.Proofs.YtlhpejdbmbpmhaaW.PrintMore
set_option linter.unusedVariables false
set_option linter.unusedSimpArgs false
open X (cntP firP)
theorem shl_nat (c j : Nat) (hj : j ≤ 6) (hc : c ≤ 4503599627370496) : shl .i64 (c : Int) (j : Int) = ((c * 2 ^ j : Nat) : Int) := by
  have hb : c * 2 ^ j ≤ 4503599627370496 * 64 := Nat.mul_le_mul hc (pow6 j hj).2
  have e : min ((j : Int)).toNat IntKind.i64.bits = j := by
    have : IntKind.i64.bits = 64 := rfl
    omega
  have e2 : (c : Int) * 2 ^ j = ((c * 2 ^ j : Nat) : Int) := by rw [Int.natCast_mul, Int.natCast_pow]; rfl
  unfold shl
  rw [e, e2]
  generalize c * 2 ^ j = y at hb
  exact X.i64_wrap (by omega) (by omega)
/-- What the first j counts are together. -/
def part7 (f : Nat → Nat) : Nat → Nat
  | 0 => 0
  | j + 1 => part7 f j + f j * 2 ^ j
theorem part7_7 (f : Nat → Nat) : part7 f 7 = S7 f := by
  simp only [part7, S7]
  omega
theorem orders_law (r : List Int) (f : Nat → Nat) (hr : r.length = 7) (hf : ∀ j : Nat, j ≤ 6 → rd r (j : Int) = (f j : Int)) (hb : ∀ j, f j ≤ 4503599627370496) (x : Nat) (hx : x = S7 f) (d : Nat) : ∀ (k j : Nat), j + d = 7 → d < k → part7 f j ≤ j * 288230376151711744 →
    undercroftlaw08_BuddyOrders.l0 k r (x : Int) 0 ((part7 f j : Nat) : Int) (j : Int) = some true := by
  induction d with
  | zero =>
    intro k j hd hk hp
    obtain ⟨k, rfl⟩ : ∃ m, k = m + 1 := ⟨k - 1, by omega⟩
    obtain rfl : j = 7 := by omega
    rw [undercroftlaw08_BuddyOrders.l0, if_neg (by omega), if_pos rfl, if_pos (by omega), part7_7, hx]
    simp
  | succ d ih =>
    intro k j hd hk hp
    obtain ⟨k, rfl⟩ : ∃ m, k = m + 1 := ⟨k - 1, by omega⟩
    have h1 := hb j
    have h2 : f j * 2 ^ j ≤ 4503599627370496 * 64 := Nat.mul_le_mul h1 (pow6 j (by omega)).2
    obtain ⟨y, hy⟩ : ∃ y, y = f j * 2 ^ j := ⟨_, rfl⟩
    have hs : shl .i64 (f j : Int) (j : Int) = (y : Int) := by rw [hy]; exact shl_nat (f j) j (by omega) h1
    have hq : part7 f (j + 1) = part7 f j + y := by rw [hy]; rfl
    rw [← hy] at h2
    have h3 : (j : Int) < (r.length : Int) := by omega
    have h4 : part7 f j + y ≤ 9223372036854775807 := by omega
    have h5 : part7 f (j + 1) ≤ (j + 1) * 288230376151711744 := by omega
    have h6 : j ≤ 6 := by omega
    have w1 : wrap64 (((part7 f j : Nat) : Int) + (y : Int)) = ((part7 f (j + 1) : Nat) : Int) := by rw [hq]; exact wrap_sum h4
    have w2 : wrap64 ((j : Int) + 1) = ((j + 1 : Nat) : Int) := wrap_sum (b := 1) (Nat.le_trans (Nat.add_le_add_right h6 1) (by decide))
    rw [undercroftlaw08_BuddyOrders.l0, if_pos h3, if_pos (Int.natCast_nonneg j), hf j h6, hs, w1, w2]
    clear w1 w2
    exact ih k (j + 1) (by omega) (by omega) h5
theorem BuddyOrders : undercroftlaw08_BuddyOrders.Pure := by
  intro l a hmax hsz hwf h1
  have hl := X.u8all_wf hwf
  have hm : l.length ≤ 140737488351232 := by omega
  refine ⟨80 * l.length + 300, ?_⟩
  obtain ⟨h6, h7⟩ := free_f l hl hm a (80 * l.length + 300) (by omega)
  unfold undercroftlaw08_BuddyOrders.f
  rw [alive_true _ (by omega), Option.bind_some, if_pos rfl]
  rcases orders_both l hl hm a (80 * l.length + 300) (by omega) with ⟨hp, h, h'⟩ | ⟨hp, r, h, h', hc⟩
  · rw [h, Option.bind_some, h6, Option.bind_some]
    unfold freeI
    rw [if_neg hp, if_neg (by decide), if_pos rfl]
    rfl
  · obtain ⟨n, rfl⟩ : ∃ N : Nat, a = (N : Int) := ⟨a.toNat, by omega⟩
    rw [Int.toNat_natCast] at hc
    rw [h, Option.bind_some, h6, Option.bind_some]
    unfold freeI
    rw [if_pos hp, if_pos rfl, Int.toNat_natCast]
    exact orders_law r (fun j => cntP (maxB l n j) 0 n) hc.1 hc.2 (fun j => by have := X.cntP_le (maxB l n j) 0 n; omega) (n - cntP (bitN l) 0 n) (sum_free l n).symm 7 _ 0 (by decide) (by omega) (Nat.zero_le _)
end Go.Proofs.Ytlhpejdbmbpmhaa.Pure
