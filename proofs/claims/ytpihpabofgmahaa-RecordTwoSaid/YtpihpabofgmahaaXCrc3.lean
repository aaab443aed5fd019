/- Bytes with some bits turned side by side; sums of bytes of three lists together. -/
import Derived.Test.YtpihpabofgmahaaXCrc2
namespace Go.Proofs.Ytpihpabofgmahaa.X
open Go Go.Proofs.YtpihpabofgmahaaW Go.Proofs.YtpihpabofgmahaaW.PrintWords

theorem xor_u8 (a b : Nat) (ha : a < 256) (hb : b < 256) : Go.bits .xor .u8 (a : Int) (b : Int) = ((a ^^^ b : Nat) : Int) := by
  show IntKind.u8.wrap ((BitVec.ofInt 8 (a : Int) ^^^ BitVec.ofInt 8 (b : Int)).toNat : Int) = _
  rw [IntKind.wrap_u8, BitVec.ofInt_natCast, BitVec.ofInt_natCast, BitVec.toNat_xor, BitVec.toNat_ofNat, BitVec.toNat_ofNat, Nat.mod_eq_of_lt ha, Nat.mod_eq_of_lt hb]
  have : a ^^^ b < 2 ^ 8 := Nat.xor_lt_two_pow ha hb
  omega

/-- Is bit j of the burst turned? -/
def hit (n8 first burst j : Nat) : Bool := burst.testBit j && decide (first + j < n8)
/-- The bytes behind j steps. -/
def flipTo (n8 first burst : Nat) (l : List Int) : Nat → List Int
  | 0 => l
  | j + 1 => if hit n8 first burst j = true then (flipTo n8 first burst l j).set ((first + j) / 8) (((((flipTo n8 first burst l j).getD ((first + j) / 8) 0).toNat ^^^ 2 ^ ((first + j) % 8)) : Nat) : Int) else flipTo n8 first burst l j
/-- What has been turned, as a number; whether anything has. -/
def flipW (n8 first burst : Nat) : Nat → Nat
  | 0 => 0
  | j + 1 => if hit n8 first burst j = true then flipW n8 first burst j ^^^ 2 ^ j else flipW n8 first burst j
def flipped (n8 first burst : Nat) : Nat → Bool
  | 0 => false
  | j + 1 => hit n8 first burst j || flipped n8 first burst j
theorem flipW_lt (n8 first burst j : Nat) : flipW n8 first burst j < 2 ^ j := by
  induction j with
  | zero => simp [flipW]
  | succ j ih =>
    simp only [flipW]
    split
    · exact Nat.xor_lt_two_pow (Nat.lt_trans ih (Nat.pow_lt_pow_right (by decide) (Nat.lt_succ_self j))) (Nat.pow_lt_pow_right (by decide) (Nat.lt_succ_self j))
    · exact Nat.lt_trans ih (Nat.pow_lt_pow_right (by decide) (Nat.lt_succ_self j))
theorem flipped_iff (n8 first burst j : Nat) : flipped n8 first burst j = true ↔ flipW n8 first burst j ≠ 0 := by
  induction j with
  | zero => simp [flipped, flipW]
  | succ j ih =>
    simp only [flipped, flipW]
    by_cases h : hit n8 first burst j = true
    · rw [if_pos h, h]
      simp only [Bool.true_or, ne_eq, true_iff]
      intro h0
      have h1 : flipW n8 first burst j = 2 ^ j := by
        have := congrArg (· ^^^ 2 ^ j) h0
        simp only [Nat.xor_assoc, Nat.xor_self, Nat.xor_zero, Nat.zero_xor] at this
        exact this
      have := flipW_lt n8 first burst j
      rw [h1] at this
      exact Nat.lt_irrefl _ this
    · rw [if_neg h, Bool.eq_false_iff.2 h, Bool.false_or]
      exact ih
theorem flipTo_tells (n8 first burst : Nat) (l : List Int) (hn : n8 = 8 * l.length) (hl : u8all l = true) (j : Nat) :
    (flipTo n8 first burst l j).length = l.length ∧ u8all (flipTo n8 first burst l j) = true ∧ le (flipTo n8 first burst l j) = le l ^^^ (flipW n8 first burst j * 2 ^ first) := by
  induction j with
  | zero => exact ⟨rfl, hl, by simp [flipTo, flipW]⟩
  | succ j ih =>
    obtain ⟨h1, h2, h3⟩ := ih
    simp only [flipTo, flipW]
    by_cases h : hit n8 first burst j = true
    · rw [if_pos h, if_pos h]
      have hlt : first + j < n8 := by
        simp only [hit, Bool.and_eq_true, decide_eq_true_eq] at h
        exact h.2
      have hi : (first + j) / 8 < (flipTo n8 first burst l j).length := by omega
      have hc := u8all_at h2 _ hi
      generalize flipTo n8 first burst l j = m at *
      have hp : 2 ^ ((first + j) % 8) < 256 := Nat.pow_lt_pow_right (a := 2) (n := 8) (by decide) (Nat.mod_lt _ (by decide))
      have hx : (m.getD ((first + j) / 8) 0).toNat ^^^ 2 ^ ((first + j) % 8) < 2 ^ 8 := Nat.xor_lt_two_pow (by have := hc.2; omega) hp
      refine ⟨by rw [List.length_set]; exact h1, u8all_set h2 _ (Int.natCast_nonneg _) (by omega), ?_⟩
      rw [le_set m _ _ hi, h3, Int.toNat_natCast, Nat.xor_comm (m.getD ((first + j) / 8) 0).toNat, Nat.xor_assoc (2 ^ ((first + j) % 8)), Nat.xor_self, Nat.xor_zero, xor_mul, Nat.xor_assoc, ← Nat.pow_add, ← Nat.pow_add]
      rw [show (first + j) % 8 + 8 * ((first + j) / 8) = j + first from by omega]
    · rw [if_neg h, if_neg h]
      exact ⟨h1, h2, h3⟩
/-- Behind a burst a sum is another one, if anything was turned. -/
theorem sum_flip (first burst : Nat) (l : List Int) (hl : u8all l = true) (hf : first ≤ 8 * l.length) (a : Int) (ht : flipped (8 * l.length) first burst 32 = true) : crcMore a (flipTo (8 * l.length) first burst l 32) ≠ crcMore a l := by
  obtain ⟨h1, h2, h3⟩ := flipTo_tells (8 * l.length) first burst l rfl hl 32
  exact sum_burst l _ hl h2 h1 a _ first (flipW_lt _ _ _ 32) ((flipped_iff _ _ _ _).1 ht) hf h3

/-- One step of the loop that turns bits, as the laws spell it. -/
theorem hit_test (burst : Nat) (j : Nat) (hj : j ≤ 32) (hb : burst < 4294967296) : Go.bits .and .u32 (shr .u32 (burst : Int) (j : Int)) 1 = if burst.testBit j then 1 else 0 := by
  have h1 : shr .u32 (burst : Int) (j : Int) = ((burst / 2 ^ j : Nat) : Int) := by
    unfold shr
    rw [Int.toNat_natCast, Nat.min_eq_left (show j ≤ IntKind.u32.bits from hj), Int.natCast_ediv, Int.natCast_pow]
    rfl
  have h2 : burst / 2 ^ j < 4294967296 := Nat.lt_of_le_of_lt (Nat.div_le_self _ _) hb
  rw [h1, bits_and_u32, BitVec.ofInt_natCast, BitVec.toNat_and, BitVec.toNat_ofNat, Nat.mod_eq_of_lt h2]
  show ((burst / 2 ^ j &&& (2 ^ 1 - 1) : Nat) : Int) = _
  rw [Nat.and_two_pow_sub_one_eq_mod, Nat.pow_one]
  have h3 : burst.testBit j = decide (burst / 2 ^ j % 2 = 1) := Nat.testBit_eq_decide_div_mod_eq
  rw [h3]
  rcases Nat.mod_two_eq_zero_or_one (burst / 2 ^ j) with h | h <;> simp [h]
theorem shl_bit (r : Nat) (hr : r < 8) : shl .u8 1 (r : Int) = ((2 ^ r : Nat) : Int) := by
  rcases (show r = 0 ∨ r = 1 ∨ r = 2 ∨ r = 3 ∨ r = 4 ∨ r = 5 ∨ r = 6 ∨ r = 7 by omega) with rfl | rfl | rfl | rfl | rfl | rfl | rfl | rfl <;> rfl
theorem turn_bit (m : List Int) (hm : u8all m = true) (p : Nat) (hp : p < 8 * m.length) :
    Go.bits .xor .u8 (rd m ((p / 8 : Nat) : Int)) (shl .u8 1 ((p % 8 : Nat) : Int)) = (((m.getD (p / 8) 0).toNat ^^^ 2 ^ (p % 8) : Nat) : Int) := by
  have hc := u8all_at hm (p / 8) (by omega)
  have hrd : rd m ((p / 8 : Nat) : Int) = (((m.getD (p / 8) 0).toNat : Nat) : Int) := by
    unfold rd
    rw [Int.toNat_natCast]
    omega
  rw [hrd, shl_bit _ (Nat.mod_lt _ (by decide)), xor_u8 _ _ (by omega) (Nat.pow_lt_pow_right (a := 2) (n := 8) (by decide) (Nat.mod_lt _ (by decide)))]

/-! ### three lists together -/
theorem ofInt_xor_u8 (a b : Int) (ha : 0 ≤ a ∧ a < 256) (hb : 0 ≤ b ∧ b < 256) : (0 ≤ Go.bits .xor .u8 a b ∧ Go.bits .xor .u8 a b < 256) ∧ BitVec.ofInt 32 (Go.bits .xor .u8 a b) = BitVec.ofInt 32 a ^^^ BitVec.ofInt 32 b := by
  obtain ⟨x, rfl⟩ := Int.eq_ofNat_of_zero_le ha.1
  obtain ⟨y, rfl⟩ := Int.eq_ofNat_of_zero_le hb.1
  have hx : x < 2 ^ 8 := by have := ha.2; omega
  have hy : y < 2 ^ 8 := by have := hb.2; omega
  rw [xor_u8 x y hx hy]
  have h : x ^^^ y < 2 ^ 8 := Nat.xor_lt_two_pow hx hy
  refine ⟨⟨Int.natCast_nonneg _, by omega⟩, ?_⟩
  rw [BitVec.ofInt_natCast, BitVec.ofInt_natCast, BitVec.ofInt_natCast, ← BitVec.ofNat_xor]
theorem byteV_xor3 (x y z : BitVec 32) (a b c d : Int) (h : BitVec.ofInt 32 d = BitVec.ofInt 32 a ^^^ BitVec.ofInt 32 b ^^^ BitVec.ofInt 32 c) : byteV (x ^^^ y ^^^ z) d = byteV x a ^^^ byteV y b ^^^ byteV z c := by
  unfold byteV
  rw [h, ← stepN_xor, ← stepN_xor]
  congr 1
  generalize BitVec.ofInt 32 a = a
  generalize BitVec.ofInt 32 b = b
  generalize BitVec.ofInt 32 c = c
  apply BitVec.eq_of_getLsbD_eq
  intro i _
  simp only [BitVec.getLsbD_xor]
  cases x.getLsbD i <;> cases y.getLsbD i <;> cases z.getLsbD i <;> cases a.getLsbD i <;> cases b.getLsbD i <;> cases c.getLsbD i <;> rfl
theorem not_xor3 (x y z : BitVec 32) : ~~~ (x ^^^ y ^^^ z) = ~~~ x ^^^ ~~~ y ^^^ ~~~ z := by
  apply BitVec.eq_of_getLsbD_eq
  intro i hi
  simp only [BitVec.getLsbD_xor, BitVec.getLsbD_not, hi, decide_true, Bool.true_and]
  cases x.getLsbD i <;> cases y.getLsbD i <;> cases z.getLsbD i <;> rfl
end Go.Proofs.Ytpihpabofgmahaa.X
