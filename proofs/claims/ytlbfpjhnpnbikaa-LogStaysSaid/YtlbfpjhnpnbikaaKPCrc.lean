/- PCrc: what this claim uses. Laid by slim.py (ours). -/
import Derived.Test.YtlbfpjhnpnbikaaKUx4
import Derived.Test.YtlbfpjhnpnbikaaKUx5
import Derived.Test.YtlbfpjhnpnbikaaKUx6
import Derived.Test.YtlbfpjhnpnbikaaKUx26
import Derived.Test.YtlbfpjhnpnbikaaKUx27
import Derived.Test.YtlbfpjhnpnbikaaKUx29
import Derived.Test.YtlbfpjhnpnbikaaKXCrc2
namespace Go.Proofs.Ytlbfpjhnpnbikaa.Pure
open Go Go.RowKit Go.Proofs.Ytlbfpjhnpnbikaa.U Go.Proofs.YtlbfpjhnpnbikaaW.PrintWords Go.Proofs.YtlbfpjhnpnbikaaW.PrintLast Go.Proofs.YtlbfpjhnpnbikaaW.PrintMore
set_option linter.unusedVariables false
set_option linter.unusedSimpArgs false
theorem wrap64_id {x : Int} (h1 : -9223372036854775808 ≤ x) (h2 : x ≤ 9223372036854775807) : wrap64 x = x := by unfold wrap64; omega
theorem u64_wrap (x : Int) : IntKind.u64.wrap x = x % 18446744073709551616 := by simp [IntKind.wrap, IntKind.bits, IntKind.signed]
theorem bit_step (w : BitVec 32) : (if Go.bits .and .u32 (w.toNat : Int) 1 = 1 then Go.bits .xor .u32 ((w.toNat : Int) / 2) 2197175160 else (w.toNat : Int) / 2) = ((X.stepV w).toNat : Int) := by
  have h1 : Go.bits .and .u32 (w.toNat : Int) 1 = ((w.toNat % 2 : Nat) : Int) := by
    rw [X.bits_and_u32, X.ofInt_toNat32]
    have : (w &&& BitVec.ofInt 32 1).toNat = w.toNat % 2 := by
      rw [BitVec.toNat_and]
      show w.toNat &&& (2 ^ 1 - 1) = _
      rw [Nat.and_two_pow_sub_one_eq_mod]
    rw [this]
  have h2 := X.ofInt_div w 1
  rw [Int.pow_one] at h2
  have h3 : Go.bits .xor .u32 ((w.toNat : Int) / 2) 2197175160 = ((w >>> 1 ^^^ 0x82f63b78#32).toNat : Int) := by
    rw [X.bits_xor_u32, h2]; rfl
  have hb : w.getLsbD 0 = decide (w.toNat % 2 = 1) := by
    rw [BitVec.getLsbD, Nat.testBit_zero]
  rw [h1, h3]
  unfold X.stepV
  rw [hb]
  by_cases hm : w.toNat % 2 = 1
  · rw [if_pos (by omega), decide_eq_true hm]; rfl
  · rw [if_neg (by omega), decide_eq_false hm]
    simp only [Bool.false_eq_true, if_false, BitVec.xor_zero, BitVec.toNat_ushiftRight, Nat.shiftRight_eq_div_pow]
    omega
theorem step_l0 : ∀ (d j k : Nat) (w : BitVec 32), j + d = 8 → d < k → undercroftref01_step.l0 k (w.toNat : Int) (j : Int) = some ((X.stepN d w).toNat : Int)
  | 0, j, k, w, hj, hk => by
    obtain ⟨k, rfl⟩ : ∃ m, k = m + 1 := ⟨k - 1, by omega⟩
    rw [undercroftref01_step.l0, if_neg (by omega)]
    rfl
  | d + 1, j, k, w, hj, hk => by
    obtain ⟨k, rfl⟩ : ∃ m, k = m + 1 := ⟨k - 1, by omega⟩
    have ih := step_l0 d (j + 1) k (X.stepV w) (by omega) (by omega)
    have hb := bit_step w
    rw [undercroftref01_step.l0, if_pos (by omega)]
    have hw : wrap64 ((j : Int) + 1) = ((j + 1 : Nat) : Int) := by rw [wrap64_id (by omega) (by omega)]; omega
    rw [hw]
    split
    · rename_i hc
      rw [if_pos hc] at hb
      rw [hb, ih]
      rfl
    · rename_i hc
      rw [if_neg hc] at hb
      rw [hb, ih]
      rfl
theorem step_f (w : BitVec 32) (c : Int) (k : Nat) (hk : 8 < k) : undercroftref01_step.f k (w.toNat : Int) c = some ((X.byteV w c).toNat : Int) := by
  unfold undercroftref01_step.f
  rw [X.xor_byte, X.ofInt_mod32]
  exact step_l0 8 0 k _ (by omega) hk
theorem refMore_l0 (l : List Int) (hm : l.length ≤ 9223372036854775807) : ∀ (d i k : Nat) (w : BitVec 32), i + d = l.length → d + 9 < k →
    undercroftref01_More.l0 k l (w.toNat : Int) (i : Int) = some ((~~~ (X.regV w (l.drop i))).toNat : Int)
  | 0, i, k, w, hi, hk => by
    obtain ⟨k, rfl⟩ : ∃ m, k = m + 1 := ⟨k - 1, by omega⟩
    rw [undercroftref01_More.l0, if_neg (by omega), X.not_word, X.ofInt_toNat32, List.drop_of_length_le (by omega)]
    rfl
  | d + 1, i, k, w, hi, hk => by
    obtain ⟨k, rfl⟩ : ∃ m, k = m + 1 := ⟨k - 1, by omega⟩
    have hlt : i < l.length := by omega
    have ih := refMore_l0 l hm d (i + 1) k (X.byteV w (rd l (i : Int))) (by omega) (by omega)
    rw [undercroftref01_More.l0, if_pos (by omega), if_pos (by omega), step_f w _ k (by omega)]
    have hw : wrap64 ((i : Int) + 1) = ((i + 1 : Nat) : Int) := by rw [wrap64_id (by omega) (by omega)]; omega
    rw [Option.bind_some, hw, ih]
    have he : l.drop i = rd l (i : Int) :: l.drop (i + 1) := by
      rw [List.drop_eq_getElem_cons hlt]
      unfold rd
      rw [Int.toNat_natCast, List.getD_eq_getElem?_getD, List.getElem?_eq_getElem hlt]
      rfl
    rw [he]
    rfl
theorem refMore_f (a : Int) (l : List Int) (k : Nat) (hm : l.length ≤ 9223372036854775807) (hk : l.length + 9 < k) : undercroftref01_More.f k a l = some (X.crcMore a l) := by
  unfold undercroftref01_More.f
  rw [X.not_word]
  exact refMore_l0 l hm l.length 0 k _ (by omega) hk
theorem refSum_f (l : List Int) (k : Nat) (hm : l.length ≤ 9223372036854775807) (hk : l.length + 9 < k) : undercroftref01_Sum.f k l = some (X.crcMore 0 l) := by
  unfold undercroftref01_Sum.f
  rw [refMore_f 0 l k hm hk]; rfl
def num : List Int → Nat
  | [] => 0
  | c :: t => c.toNat + 256 * num t
theorem num_lt : ∀ (l : List Int), X.u8all l = true → num l < 256 ^ l.length
  | [], _ => by simp [num]
  | c :: t, h => by
    have hc := X.u8all_iff.1 h c List.mem_cons_self
    have ht := num_lt t (X.u8all_iff.2 (fun x hx => X.u8all_iff.1 h x (List.mem_cons_of_mem _ hx)))
    simp only [num, List.length_cons, Nat.pow_succ]
    have : c.toNat < 256 := by omega
    omega
theorem num_one (c : Int) : num [c] = c.toNat := by simp [num]
theorem num_append (l m : List Int) : num (l ++ m) = num l + 256 ^ l.length * num m := by
  induction l with
  | nil => simp [num]
  | cons c t ih =>
    simp only [List.cons_append, num, List.length_cons, Nat.pow_succ, ih, Nat.mul_add]
    rw [Nat.mul_comm (256 ^ t.length) 256, ← Nat.mul_assoc]
    omega
theorem or_join (k x y : Nat) (hx : x < 2 ^ k) (h : x + y * 2 ^ k < 18446744073709551616) : Go.bits .or .u64 (x : Int) ((y * 2 ^ k : Nat) : Int) = ((x + y * 2 ^ k : Nat) : Int) := by
  have hp : 0 < 2 ^ k := Nat.two_pow_pos k
  show IntKind.u64.wrap _ = _
  rw [u64_wrap]
  show ((BitVec.ofInt 64 (x : Int) ||| BitVec.ofInt 64 ((y * 2 ^ k : Nat) : Int)).toNat : Int) % _ = _
  rw [BitVec.ofInt_natCast, BitVec.ofInt_natCast, BitVec.toNat_or, BitVec.toNat_ofNat, BitVec.toNat_ofNat, Nat.mod_eq_of_lt (by omega), Nat.mod_eq_of_lt (by omega)]
  have : x ||| y * 2 ^ k = x + y * 2 ^ k := by
    rw [Nat.mul_comm, Nat.or_comm, ← Nat.two_pow_add_eq_or_of_lt hx, Nat.add_comm]
  rw [this]
  omega
theorem or_comm64 (a b : Int) : Go.bits .or .u64 a b = Go.bits .or .u64 b a := by
  show IntKind.u64.wrap ((BitVec.ofInt 64 a ||| BitVec.ofInt 64 b).toNat : Int) = IntKind.u64.wrap ((BitVec.ofInt 64 b ||| BitVec.ofInt 64 a).toNat : Int)
  rw [BitVec.or_comm]
theorem number_l0 (l : List Int) (h : X.u8all l = true) (h8 : l.length ≤ 8) : ∀ (i k : Nat), i ≤ l.length → i < k →
    crc_Number.l0 k l (num (l.drop i) : Int) ((i : Int) - 1) = some ((num l : Int), true)
  | 0, k, _, hk => by
    obtain ⟨k, rfl⟩ : ∃ m, k = m + 1 := ⟨k - 1, by omega⟩
    rw [crc_Number.l0, if_neg (by omega)]
    rfl
  | i + 1, k, hi, hk => by
    obtain ⟨k, rfl⟩ : ∃ m, k = m + 1 := ⟨k - 1, by omega⟩
    have ih := number_l0 l h h8 i k (by omega) (by omega)
    have hc := X.u8all_at h i (by omega)
    have he : l.drop i = l.getD i 0 :: l.drop (i + 1) := by
      rw [List.drop_eq_getElem_cons (by omega), List.getD_eq_getElem?_getD, List.getElem?_eq_getElem (by omega)]
      rfl
    have hlt := num_lt _ (X.u8all_drop h (i + 1))
    rw [List.length_drop] at hlt
    have hle : 256 ^ (l.length - (i + 1)) ≤ 256 ^ 7 := Nat.pow_le_pow_right (by decide) (by omega)
    have hnum : num (l.drop i) = (l.getD i 0).toNat + 256 * num (l.drop (i + 1)) := by rw [he]; rfl
    have e1 : ((i + 1 : Nat) : Int) - 1 = (i : Int) := by omega
    rw [e1, crc_Number.l0, if_pos (by omega), if_pos (by omega), if_pos (by omega)]
    have hrd : rd l (i : Int) = l.getD i 0 := by unfold rd; rw [Int.toNat_natCast]
    have hw : wrap64 ((i : Int) - 1) = (i : Int) - 1 := wrap64_id (by omega) (by omega)
    rw [hrd, hw]
    generalize l.getD i 0 = c at *
    obtain ⟨n, rfl⟩ := Int.eq_ofNat_of_zero_le hc.1
    rw [Int.toNat_natCast] at hnum
    have hor := or_join 8 n (num (l.drop (i + 1))) (by omega) (by omega)
    have e2 : IntKind.u64.wrap ((num (l.drop (i + 1)) : Int) * 256) = ((num (l.drop (i + 1)) * 2 ^ 8 : Nat) : Int) := by rw [u64_wrap]; omega
    have e3 : IntKind.u64.wrap ((n : Nat) : Int) = (n : Int) := by rw [u64_wrap]; omega
    rw [e2, e3, or_comm64, hor, show n + num (l.drop (i + 1)) * 2 ^ 8 = num (l.drop i) from by rw [hnum]; omega]
    exact ih
theorem number_f (l : List Int) (h : X.u8all l = true) (k : Nat) (hk : 8 < k) : crc_Number.f k l = some (if l.length ≤ 8 then ((num l : Int), true) else (0, false)) := by
  unfold crc_Number.f
  by_cases h8 : l.length ≤ 8
  · rw [if_neg (by omega), if_pos h8]
    have := number_l0 l h h8 l.length k (by omega) (by omega)
    rw [List.drop_of_length_le (Nat.le_refl _)] at this
    rw [wrap64_id (by omega) (by omega)]
    exact this
  · rw [if_pos (by omega), if_neg h8]
theorem refNumber_l0 (l : List Int) (h : X.u8all l = true) (h8 : l.length ≤ 8) : ∀ (d i k : Nat), i + d = l.length → d < k →
    undercroftref01_Number.l0 k l (num (l.take i) : Int) (i : Int) = some ((num l : Int), true)
  | 0, i, k, hi, hk => by
    obtain ⟨k, rfl⟩ : ∃ m, k = m + 1 := ⟨k - 1, by omega⟩
    rw [undercroftref01_Number.l0, if_neg (by omega), List.take_of_length_le (by omega)]
  | d + 1, i, k, hi, hk => by
    obtain ⟨k, rfl⟩ : ∃ m, k = m + 1 := ⟨k - 1, by omega⟩
    have ih := refNumber_l0 l h h8 d (i + 1) k (by omega) (by omega)
    have hc := X.u8all_at h i (by omega)
    rw [undercroftref01_Number.l0, if_pos (by omega), if_pos (by omega)]
    have hrd : rd l (i : Int) = l.getD i 0 := by unfold rd; rw [Int.toNat_natCast]
    have hw : wrap64 ((i : Int) + 1) = ((i + 1 : Nat) : Int) := by rw [wrap64_id (by omega) (by omega)]; omega
    have hw8 : wrap64 (8 * (i : Int)) = ((8 * i : Nat) : Int) := by rw [wrap64_id (by omega) (by omega)]; omega
    rw [hrd, hw, hw8, if_pos (by omega)]
    have hlt := num_lt _ (X.u8all_take h i)
    rw [List.length_take, Nat.min_eq_left (by omega)] at hlt
    have hmulp : (2 : Nat) ^ (8 * i) = 256 ^ i := by rw [Nat.pow_mul]
    have hg : l.getD i 0 = l[i] := by rw [List.getD_eq_getElem?_getD, List.getElem?_eq_getElem (by omega)]; rfl
    have he : num (l.take (i + 1)) = num (l.take i) + (l.getD i 0).toNat * 2 ^ (8 * i) := by
      rw [List.take_succ_eq_append_getElem (by omega), num_append, List.length_take, Nat.min_eq_left (by omega), hg, hmulp, num_one, Nat.mul_comm]
    clear hg
    have hpos : (256 : Nat) ^ i ≤ 256 ^ 7 := Nat.pow_le_pow_right (by decide) (by omega)
    generalize l.getD i 0 = c at *
    obtain ⟨n, rfl⟩ := Int.eq_ofNat_of_zero_le hc.1
    rw [Int.toNat_natCast] at he
    have hn : n < 256 := by omega
    have hprod : n * 2 ^ (8 * i) ≤ 255 * 2 ^ (8 * i) := Nat.mul_le_mul_right _ (by omega)
    have e3 : shl .u64 (IntKind.u64.wrap (n : Int)) ((8 * i : Nat) : Int) = ((n * 2 ^ (8 * i) : Nat) : Int) := by
      have hn' : ((n : Nat) : Int) % 18446744073709551616 = (n : Int) := by omega
      have hc2 : ((n * 2 ^ (8 * i) : Nat) : Int) = (n : Int) * 2 ^ (8 * i) := by rw [Int.natCast_mul, Int.natCast_pow]; rfl
      unfold shl
      rw [Int.toNat_natCast, Nat.min_eq_left (by show 8 * i ≤ 64; omega), u64_wrap, u64_wrap, hn', ← hc2]
      rw [hmulp] at hprod ⊢
      generalize (256 : Nat) ^ i = q at *
      generalize n * q = nq at *
      omega
    have hor := or_join (8 * i) (num (l.take i)) n (by rw [hmulp]; exact hlt) (by
      rw [hmulp] at hprod ⊢
      generalize (256 : Nat) ^ i = q at *
      generalize n * q = nq at *
      omega)
    rw [e3, hor, ← he]
    exact ih
theorem refNumber_f (l : List Int) (h : X.u8all l = true) (k : Nat) (hk : 8 < k) : undercroftref01_Number.f k l = some (if l.length ≤ 8 then ((num l : Int), true) else (0, false)) := by
  unfold undercroftref01_Number.f
  by_cases h8 : l.length ≤ 8
  · rw [if_neg (by omega), if_pos h8]
    exact refNumber_l0 l h h8 l.length 0 k (by omega) (by omega)
  · rw [if_pos (by omega), if_neg h8]
def bytesN (v : Int) (n : Nat) : List Int := (List.range n).map (fun i => (v / 2 ^ (8 * i)) % 256)
def clamp8 (n : Int) : Nat := (mx 0 (mn n 8)).toNat
theorem clamp8_le (n : Int) : clamp8 n ≤ 8 := by unfold clamp8 mx mn; split <;> split <;> omega
theorem bytesN_length (v : Int) (n : Nat) : (bytesN v n).length = n := by simp [bytesN]
theorem bytesN_u8 (v : Int) (n : Nat) : X.u8all (bytesN v n) = true := by
  refine X.u8all_iff.2 (fun c hc => ?_)
  obtain ⟨i, _, rfl⟩ := List.mem_map.1 hc
  exact ⟨Int.emod_nonneg _ (by decide), Int.emod_lt_of_pos _ (by decide)⟩
theorem shr_byte (v : Int) (i : Nat) (hi : i ≤ 8) : shr .u64 v ((8 * i : Nat) : Int) = v / 2 ^ (8 * i) := by
  unfold shr
  rw [Int.toNat_natCast, Nat.min_eq_left (by show 8 * i ≤ 64; omega)]
theorem bytesN_succ (v : Int) (n : Nat) : bytesN v (n + 1) = bytesN v n ++ [(v / 2 ^ (8 * n)) % 256] := by
  unfold bytesN
  rw [List.range_succ, List.map_append]
  rfl
theorem bytes_l0 (v : Int) (n : Nat) (hn : n ≤ 8) : ∀ (d i k : Nat), i + d = n → d < k →
    crc_Bytes.l0 k v (bytesN v i ++ List.replicate d 0) (n : Int) (i : Int) = some (bytesN v n)
  | 0, i, k, hi, hk => by
    obtain ⟨k, rfl⟩ : ∃ m, k = m + 1 := ⟨k - 1, by omega⟩
    rw [crc_Bytes.l0, if_neg (by omega), show i = n from by omega]
    simp
  | d + 1, i, k, hi, hk => by
    obtain ⟨k, rfl⟩ : ∃ m, k = m + 1 := ⟨k - 1, by omega⟩
    have ih := bytes_l0 v n hn d (i + 1) k (by omega) (by omega)
    have hw : wrap64 ((i : Int) + 1) = ((i + 1 : Nat) : Int) := by rw [wrap64_id (by omega) (by omega)]; omega
    have hw8 : wrap64 (8 * (i : Int)) = ((8 * i : Nat) : Int) := by rw [wrap64_id (by omega) (by omega)]; omega
    rw [crc_Bytes.l0, if_pos (by omega), hw8, if_pos (by omega), if_pos (by omega), if_pos (by rw [List.length_append, bytesN_length, List.length_replicate]; omega), hw, shr_byte v i (by omega), Int.toNat_natCast]
    have he : (bytesN v i ++ List.replicate (d + 1) 0).set i ((v / 2 ^ (8 * i)) % 256) = bytesN v (i + 1) ++ List.replicate d 0 := by
      rw [List.set_append_right _ _ (by rw [bytesN_length]; exact Nat.le_refl _), bytesN_length, Nat.sub_self, List.replicate_succ, List.set_cons_zero, bytesN_succ, List.append_assoc]
      rfl
    rw [he]
    exact ih
theorem bytes_f (v n : Int) (k : Nat) (hk : 8 < k) : crc_Bytes.f k v n = some (bytesN v (clamp8 n)) := by
  have h8 := clamp8_le n
  unfold crc_Bytes.f
  have h0 : 0 ≤ mx 0 (mn n 8) := by unfold mx; split <;> omega
  rw [if_pos h0]
  show (if clamp8 n ≤ _ then _ else _) = _
  rw [if_pos (by omega)]
  show crc_Bytes.l0 k v (List.replicate (clamp8 n) 0) _ 0 = _
  have := bytes_l0 v (clamp8 n) h8 (clamp8 n) 0 k (by omega) (by omega)
  rw [List.length_replicate]
  exact this
theorem refBytes_l0 (v n : Int) : ∀ (d i k : Nat), i + d = clamp8 n → d < k →
    undercroftref01_Bytes.l0 k v n (bytesN v i) (i : Int) = some (bytesN v (clamp8 n))
  | 0, i, k, hi, hk => by
    obtain ⟨k, rfl⟩ : ∃ m, k = m + 1 := ⟨k - 1, by omega⟩
    have h8 : clamp8 n = (if 8 < n then 8 else n.toNat) := by unfold clamp8 mx mn; split <;> split <;> (try split) <;> omega
    rw [undercroftref01_Bytes.l0, show i = clamp8 n from by omega]
    split
    · rename_i hc
      rw [if_neg]
      by_cases h : 8 < n
      · rw [if_pos h] at h8; omega
      · rw [if_neg h] at h8; omega
    · rfl
  | d + 1, i, k, hi, hk => by
    obtain ⟨k, rfl⟩ : ∃ m, k = m + 1 := ⟨k - 1, by omega⟩
    have ih := refBytes_l0 v n d (i + 1) k (by omega) (by omega)
    have h8 : clamp8 n = (if 8 < n then 8 else n.toNat) := by unfold clamp8 mx mn; split <;> split <;> (try split) <;> omega
    have hin : (i : Int) < n ∧ (i : Int) < 8 := by
      rw [h8] at hi
      split at hi <;> omega
    have hw : wrap64 ((i : Int) + 1) = ((i + 1 : Nat) : Int) := by rw [wrap64_id (by omega) (by omega)]; omega
    have hw8 : wrap64 (8 * (i : Int)) = ((8 * i : Nat) : Int) := by rw [wrap64_id (by omega) (by omega)]; omega
    rw [undercroftref01_Bytes.l0, if_pos hin.1, if_pos hin.2, hw8, if_pos (by omega), if_pos (by rw [bytesN_length]; omega), hw, shr_byte v i (by omega), ← bytesN_succ]
    exact ih
theorem refBytes_f (v n : Int) (k : Nat) (hk : 8 < k) : undercroftref01_Bytes.f k v n = some (bytesN v (clamp8 n)) := by
  unfold undercroftref01_Bytes.f
  exact refBytes_l0 v n (clamp8 n) 0 k (by omega) (by have := clamp8_le n; omega)
theorem num_bytesN (v : Nat) (n : Nat) : num (bytesN (v : Int) n) = v % 256 ^ n := by
  induction n with
  | zero => simp [bytesN, num, Nat.mod_one]
  | succ n ih =>
    rw [bytesN_succ, num_append, ih, bytesN_length]
    have : ((v : Int) / 2 ^ (8 * n)) % 256 = ((v / 256 ^ n % 256 : Nat) : Int) := by
      have hp : ((2 : Int) ^ (8 * n)) = ((256 ^ n : Nat) : Int) := by rw [Int.natCast_pow, Int.pow_mul]; rfl
      rw [hp]
      show ((v : Int) / ((256 ^ n : Nat) : Int)) % ((256 : Nat) : Int) = _
      rw [← Int.natCast_ediv, ← Int.natCast_emod]
    rw [this]
    rw [num_one, Int.toNat_natCast, Nat.pow_succ, Nat.mod_mul]
end Go.Proofs.Ytlbfpjhnpnbikaa.Pure
