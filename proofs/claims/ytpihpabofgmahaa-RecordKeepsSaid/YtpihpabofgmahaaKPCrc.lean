/- PCrc: what this claim uses. Laid by slim.py (ours). -/
import Derived.Test.YtpihpabofgmahaaKUx2
import Derived.Test.YtpihpabofgmahaaKUx5
import Derived.Test.YtpihpabofgmahaaKUx8
import Derived.Test.YtpihpabofgmahaaKUx15
import Derived.Test.YtpihpabofgmahaaKUx16
import Derived.Test.YtpihpabofgmahaaKUx22
import Derived.Test.YtpihpabofgmahaaKXCrc2
namespace Go.Proofs.Ytpihpabofgmahaa.Pure
open Go Go.RowKit Go.Proofs.Ytpihpabofgmahaa.U Go.Proofs.YtpihpabofgmahaaW.PrintWords Go.Proofs.YtpihpabofgmahaaW.PrintLast Go.Proofs.YtpihpabofgmahaaW.PrintMore
set_option linter.unusedVariables false
set_option linter.unusedSimpArgs false
theorem wrap64_id {x : Int} (h1 : -9223372036854775808 ≤ x) (h2 : x ≤ 9223372036854775807) : wrap64 x = x := by unfold wrap64; omega
theorem u64_wrap (x : Int) : IntKind.u64.wrap x = x % 18446744073709551616 := by simp [IntKind.wrap, IntKind.bits, IntKind.signed]
theorem bit_step (w : BitVec 32) : (if Go.bits .and .u32 (w.toNat : Int) 1 = 1 then Go.bits .xor .u32 ((w.toNat : Int) / 2) 2197175160 else (w.toNat : Int) / 2) = ((X.stepV w).toNat : Int) := by
  have h1 : Go.bits .and .u32 (w.toNat : Int) 1 = ((w.toNat % 2 : Nat) : Int) := by
    rw [X.bits_and_u32, X.ofInt_toNat32]
    have : (w &&& BitVec.ofInt 32 1).toNat = w.toNat % 2 := by
      rw [BitVec.toNat_and]
      show w.toNat &&& (2 ^ 1 - 1) = _
      rw [Nat.and_two_pow_sub_one_eq_mod]
    rw [this]
  have h2 := X.ofInt_div w 1
  rw [Int.pow_one] at h2
  have h3 : Go.bits .xor .u32 ((w.toNat : Int) / 2) 2197175160 = ((w >>> 1 ^^^ 0x82f63b78#32).toNat : Int) := by
    rw [X.bits_xor_u32, h2]; rfl
  have hb : w.getLsbD 0 = decide (w.toNat % 2 = 1) := by
    rw [BitVec.getLsbD, Nat.testBit_zero]
  rw [h1, h3]
  unfold X.stepV
  rw [hb]
  by_cases hm : w.toNat % 2 = 1
  · rw [if_pos (by omega), decide_eq_true hm]; rfl
  · rw [if_neg (by omega), decide_eq_false hm]
    simp only [Bool.false_eq_true, if_false, BitVec.xor_zero, BitVec.toNat_ushiftRight, Nat.shiftRight_eq_div_pow]
    omega
theorem step_l0 : ∀ (d j k : Nat) (w : BitVec 32), j + d = 8 → d < k → undercroftref01_step.l0 k (w.toNat : Int) (j : Int) = some ((X.stepN d w).toNat : Int)
  | 0, j, k, w, hj, hk => by
    obtain ⟨k, rfl⟩ : ∃ m, k = m + 1 := ⟨k - 1, by omega⟩
    rw [undercroftref01_step.l0, if_neg (by omega)]
    rfl
  | d + 1, j, k, w, hj, hk => by
    obtain ⟨k, rfl⟩ : ∃ m, k = m + 1 := ⟨k - 1, by omega⟩
    have ih := step_l0 d (j + 1) k (X.stepV w) (by omega) (by omega)
    have hb := bit_step w
    rw [undercroftref01_step.l0, if_pos (by omega)]
    have hw : wrap64 ((j : Int) + 1) = ((j + 1 : Nat) : Int) := by rw [wrap64_id (by omega) (by omega)]; omega
    rw [hw]
    split
    · rename_i hc
      rw [if_pos hc] at hb
      rw [hb, ih]
      rfl
    · rename_i hc
      rw [if_neg hc] at hb
      rw [hb, ih]
      rfl
theorem step_f (w : BitVec 32) (c : Int) (k : Nat) (hk : 8 < k) : undercroftref01_step.f k (w.toNat : Int) c = some ((X.byteV w c).toNat : Int) := by
  unfold undercroftref01_step.f
  rw [X.xor_byte, X.ofInt_mod32]
  exact step_l0 8 0 k _ (by omega) hk
theorem refMore_l0 (l : List Int) (hm : l.length ≤ 9223372036854775807) : ∀ (d i k : Nat) (w : BitVec 32), i + d = l.length → d + 9 < k →
    undercroftref01_More.l0 k l (w.toNat : Int) (i : Int) = some ((~~~ (X.regV w (l.drop i))).toNat : Int)
  | 0, i, k, w, hi, hk => by
    obtain ⟨k, rfl⟩ : ∃ m, k = m + 1 := ⟨k - 1, by omega⟩
    rw [undercroftref01_More.l0, if_neg (by omega), X.not_word, X.ofInt_toNat32, List.drop_of_length_le (by omega)]
    rfl
  | d + 1, i, k, w, hi, hk => by
    obtain ⟨k, rfl⟩ : ∃ m, k = m + 1 := ⟨k - 1, by omega⟩
    have hlt : i < l.length := by omega
    have ih := refMore_l0 l hm d (i + 1) k (X.byteV w (rd l (i : Int))) (by omega) (by omega)
    rw [undercroftref01_More.l0, if_pos (by omega), if_pos (by omega), step_f w _ k (by omega)]
    have hw : wrap64 ((i : Int) + 1) = ((i + 1 : Nat) : Int) := by rw [wrap64_id (by omega) (by omega)]; omega
    rw [Option.bind_some, hw, ih]
    have he : l.drop i = rd l (i : Int) :: l.drop (i + 1) := by
      rw [List.drop_eq_getElem_cons hlt]
      unfold rd
      rw [Int.toNat_natCast, List.getD_eq_getElem?_getD, List.getElem?_eq_getElem hlt]
      rfl
    rw [he]
    rfl
theorem refMore_f (a : Int) (l : List Int) (k : Nat) (hm : l.length ≤ 9223372036854775807) (hk : l.length + 9 < k) : undercroftref01_More.f k a l = some (X.crcMore a l) := by
  unfold undercroftref01_More.f
  rw [X.not_word]
  exact refMore_l0 l hm l.length 0 k _ (by omega) hk
theorem refSum_f (l : List Int) (k : Nat) (hm : l.length ≤ 9223372036854775807) (hk : l.length + 9 < k) : undercroftref01_Sum.f k l = some (X.crcMore 0 l) := by
  unfold undercroftref01_Sum.f
  rw [refMore_f 0 l k hm hk]; rfl
def num : List Int → Nat
  | [] => 0
  | c :: t => c.toNat + 256 * num t
theorem num_one (c : Int) : num [c] = c.toNat := by simp [num]
theorem num_append (l m : List Int) : num (l ++ m) = num l + 256 ^ l.length * num m := by
  induction l with
  | nil => simp [num]
  | cons c t ih =>
    simp only [List.cons_append, num, List.length_cons, Nat.pow_succ, ih, Nat.mul_add]
    rw [Nat.mul_comm (256 ^ t.length) 256, ← Nat.mul_assoc]
    omega
def bytesN (v : Int) (n : Nat) : List Int := (List.range n).map (fun i => (v / 2 ^ (8 * i)) % 256)
def clamp8 (n : Int) : Nat := (mx 0 (mn n 8)).toNat
theorem clamp8_le (n : Int) : clamp8 n ≤ 8 := by unfold clamp8 mx mn; split <;> split <;> omega
theorem bytesN_length (v : Int) (n : Nat) : (bytesN v n).length = n := by simp [bytesN]
theorem shr_byte (v : Int) (i : Nat) (hi : i ≤ 8) : shr .u64 v ((8 * i : Nat) : Int) = v / 2 ^ (8 * i) := by
  unfold shr
  rw [Int.toNat_natCast, Nat.min_eq_left (by show 8 * i ≤ 64; omega)]
theorem bytesN_succ (v : Int) (n : Nat) : bytesN v (n + 1) = bytesN v n ++ [(v / 2 ^ (8 * n)) % 256] := by
  unfold bytesN
  rw [List.range_succ, List.map_append]
  rfl
theorem refBytes_l0 (v n : Int) : ∀ (d i k : Nat), i + d = clamp8 n → d < k →
    undercroftref01_Bytes.l0 k v n (bytesN v i) (i : Int) = some (bytesN v (clamp8 n))
  | 0, i, k, hi, hk => by
    obtain ⟨k, rfl⟩ : ∃ m, k = m + 1 := ⟨k - 1, by omega⟩
    have h8 : clamp8 n = (if 8 < n then 8 else n.toNat) := by unfold clamp8 mx mn; split <;> split <;> (try split) <;> omega
    rw [undercroftref01_Bytes.l0, show i = clamp8 n from by omega]
    split
    · rename_i hc
      rw [if_neg]
      by_cases h : 8 < n
      · rw [if_pos h] at h8; omega
      · rw [if_neg h] at h8; omega
    · rfl
  | d + 1, i, k, hi, hk => by
    obtain ⟨k, rfl⟩ : ∃ m, k = m + 1 := ⟨k - 1, by omega⟩
    have ih := refBytes_l0 v n d (i + 1) k (by omega) (by omega)
    have h8 : clamp8 n = (if 8 < n then 8 else n.toNat) := by unfold clamp8 mx mn; split <;> split <;> (try split) <;> omega
    have hin : (i : Int) < n ∧ (i : Int) < 8 := by
      rw [h8] at hi
      split at hi <;> omega
    have hw : wrap64 ((i : Int) + 1) = ((i + 1 : Nat) : Int) := by rw [wrap64_id (by omega) (by omega)]; omega
    have hw8 : wrap64 (8 * (i : Int)) = ((8 * i : Nat) : Int) := by rw [wrap64_id (by omega) (by omega)]; omega
    rw [undercroftref01_Bytes.l0, if_pos hin.1, if_pos hin.2, hw8, if_pos (by omega), if_pos (by rw [bytesN_length]; omega), hw, shr_byte v i (by omega), ← bytesN_succ]
    exact ih
theorem refBytes_f (v n : Int) (k : Nat) (hk : 8 < k) : undercroftref01_Bytes.f k v n = some (bytesN v (clamp8 n)) := by
  unfold undercroftref01_Bytes.f
  exact refBytes_l0 v n (clamp8 n) 0 k (by omega) (by have := clamp8_le n; omega)
theorem num_bytesN (v : Nat) (n : Nat) : num (bytesN (v : Int) n) = v % 256 ^ n := by
  induction n with
  | zero => simp [bytesN, num, Nat.mod_one]
  | succ n ih =>
    rw [bytesN_succ, num_append, ih, bytesN_length]
    have : ((v : Int) / 2 ^ (8 * n)) % 256 = ((v / 256 ^ n % 256 : Nat) : Int) := by
      have hp : ((2 : Int) ^ (8 * n)) = ((256 ^ n : Nat) : Int) := by rw [Int.natCast_pow, Int.pow_mul]; rfl
      rw [hp]
      show ((v : Int) / ((256 ^ n : Nat) : Int)) % ((256 : Nat) : Int) = _
      rw [← Int.natCast_ediv, ← Int.natCast_emod]
    rw [this]
    rw [num_one, Int.toNat_natCast, Nat.pow_succ, Nat.mod_mul]
end Go.Proofs.Ytpihpabofgmahaa.Pure
