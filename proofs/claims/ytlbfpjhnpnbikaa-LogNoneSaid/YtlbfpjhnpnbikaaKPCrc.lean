/- Ux29 PCrc: what this claim uses. Laid by slim.py (ours). -/
import Derived.Test.YtlbfpjhnpnbikaaKUx0
import Derived.Test.YtlbfpjhnpnbikaaKUx4
import Derived.Test.YtlbfpjhnpnbikaaKUx5
import Derived.Test.YtlbfpjhnpnbikaaKUx6
import Derived.Test.YtlbfpjhnpnbikaaKUx26
import Derived.Test.YtlbfpjhnpnbikaaKUx27
import Derived.Test.YtlbfpjhnpnbikaaKXCrc2
section
namespace Go.Proofs.Ytlbfpjhnpnbikaa.U
open Go.RowKit Go.Proofs.YtlbfpjhnpnbikaaW.PrintWords Go.Proofs.YtlbfpjhnpnbikaaW.PrintLast Go.Proofs.YtlbfpjhnpnbikaaW.PrintMore
attribute [local go_sem] max2_int min2_int max_two min_two max_three min_three max_four min_four
set_option linter.unusedVariables false
set_option linter.unusedSimpArgs false
def undercroftref01_Number.l0 : Nat → List Int → Int → Int → Option (Int × Bool)
  | 0, _, _, _ => none
  | k + 1, x0, x4, x5 => if x5 < (x0.length : Int) then (if 0 ≤ x5 then (if 0 ≤ (wrap64 (8 * x5)) then (undercroftref01_Number.l0 k x0 (Go.bits .or .u64 x4 (shl .u64 (IntKind.u64.wrap (rd x0 x5)) (wrap64 (8 * x5)))) (wrap64 (x5 + 1))) else (none)) else (none)) else (some (x4, true))
def undercroftref01_Number.f (k : Nat) (l0 : List Int) : Option (Int × Bool) := if (l0.length : Int) > 8 then (some (0, false)) else (undercroftref01_Number.l0 k l0 0 0)
theorem undercroftref01_Number.mono_l : ∀ k, (∀ y0 y1 y2, LeO (undercroftref01_Number.l0 k y0 y1 y2) (undercroftref01_Number.l0 (k + 1) y0 y1 y2))
  | 0 => fun _ _ _ r h => by simp [undercroftref01_Number.l0] at h
  | k + 1 => by
    have ih0 := undercroftref01_Number.mono_l k
    · intro y0 y1 y2
      unfold undercroftref01_Number.l0
      repeat' first
      | (with_reducible exact ih0 _ _ _)
      | (with_reducible exact LeO.refl _)
      | (with_reducible exact LeO.none _)
      | (with_reducible refine LeO.ite ?_ ?_)
      | (with_reducible refine LeO.bind ?_ (fun _ => ?_))
      | exact ih0 _ _ _
      | exact LeO.none _
      | refine LeO.ite ?_ ?_
      | refine LeO.bind ?_ (fun _ => ?_)
theorem undercroftref01_Number.mono : ∀ a0 k, LeO (undercroftref01_Number.f k a0) (undercroftref01_Number.f (k + 1) a0) := by
  intro a0 k
  have ih0 := undercroftref01_Number.mono_l k
  unfold undercroftref01_Number.f
  repeat' first
      | (with_reducible exact ih0 _ _ _)
      | (with_reducible exact LeO.refl _)
      | (with_reducible exact LeO.none _)
      | (with_reducible refine LeO.ite ?_ ?_)
      | (with_reducible refine LeO.bind ?_ (fun _ => ?_))
      | exact ih0 _ _ _
      | exact LeO.none _
      | refine LeO.ite ?_ ?_
      | refine LeO.bind ?_ (fun _ => ?_)
set_option maxHeartbeats 8000000 in
set_option maxRecDepth 100000 in
theorem undercroftref01_Number.calls (k : Nat) (A0 : Option Addr) (c0 : Nat) (l0 : List Int) (r1 : Int) (r2 : Bool) (w : World) (hr0 : Kd.C (Kd.int .u8) w A0 l0.length l0) (hc0 : l0.length ≤ c0) (h : undercroftref01_Number.f k l0 = some (r1, r2)) :
    Calls Try.prog 64 #[.slice A0 l0.length c0] w fun e w' => e = .returned (.tuple #[.int .u64 r1, .bool r2]) ∧ Drawn0 w w' := by
  have HR0 := Aside0.mk hr0
  have HC0 := Aside0.mk hc0
  clear hr0 hc0
  have H : (if (l0.length : Int) > 8 then (some (0, false)) else (undercroftref01_Number.l0 k l0 0 0)) = some (r1, r2) := h
  clear h
  by_cases c2 : (l0.length : Int) > 8
  · rw [if_pos c2] at H
    have c2b0 : decide (8 < (l0.length : Int)) = true := decide_eq_true c2
    have c2b1 : decide (8 < l0.length) = true := decide_eq_true (by omega)
    clear c2
    simp only [Option.some.injEq, Prod.mk.injEq] at H
    obtain ⟨rfl, rfl⟩ := H
    go_enter Try.func64, Try.ntmps64
    go_wp2
    go_ret2
    exact ⟨by first | rfl | (simp; done) | (simp [*]; done), by repeat (first | exact Drawn0.refl _ | apply Drawn0.step)⟩
  · rw [if_neg c2] at H
    have c2b0 : decide (8 < (l0.length : Int)) = false := decide_eq_false c2
    have c2b1 : decide (8 < l0.length) = false := decide_eq_false (by omega)
    clear c2
    have H' := Aside0.mk H
    clear H
    go_enter Try.func64, Try.ntmps64
    go_wp2
    go_loopg [4, 5] k (fun kq v4 v5 w' => ∃ (x4_1 : Int) (x5_1 : Int), v4 = .int .u64 x4_1 ∧ v5 = .int .i64 x5_1 ∧ Aside0 (undercroftref01_Number.l0 kq l0 x4_1 x5_1 = some (r1, r2)) ∧ Aside0 (kq ≤ k) ∧ Drawn0 w w')
    case atStart => exact ⟨(0), (0), (by first | rfl | (simp; done) | (simp [*]; done)), (by first | rfl | (simp; done) | (simp [*]; done)), H', ⟨Nat.le_refl _⟩, by repeat (first | exact Drawn0.refl _ | apply Drawn0.step)⟩
    case round =>
      clear H'
      try clear c2
      try clear c2b0
      try clear c2b1
      try clear p2
      obtain ⟨x4_1, x5_1, rfl, rfl, HA, HK1, ⟨m1, rfl⟩⟩ := hrel
      cases gk with
      | zero => exact absurd HA.out (by simp [undercroftref01_Number.l0])
      | succ k1 =>
        have H := HA.out
        clear HA
        simp only [undercroftref01_Number.l0] at H
        by_cases c3 : x5_1 < (l0.length : Int)
        · rw [if_pos c3] at H
          have c3b0 : decide (x5_1 < (l0.length : Int)) = true := decide_eq_true c3
          clear c3
          by_cases c4 : 0 ≤ x5_1
          rotate_left
          · rw [if_neg c4] at H
            exact absurd H (by simp)
          rw [if_pos c4] at H
          have c4b0 : decide (0 ≤ x5_1) = true := decide_eq_true c4
          clear c4
          obtain ⟨ji5, hji5⟩ : ∃ j_ : Int, (wrap64 (8 * x5_1)) = j_ := ⟨_, rfl⟩
          replace H : (if 0 ≤ (ji5) then (undercroftref01_Number.l0 k1 l0 (Go.bits .or .u64 x4_1 (shl .u64 (IntKind.u64.wrap (rd l0 x5_1)) (ji5))) (wrap64 (x5_1 + 1))) else (none)) = some (r1, r2) := by first | (rw [hji5] at H; exact H) | (simp only [hji5] at H ⊢; exact H)
          have hji5w : (IntKind.i64.wrap (8 * x5_1)) = ji5 := (i64_w _).trans hji5
          by_cases c6 : 0 ≤ (ji5)
          rotate_left
          · rw [if_neg c6] at H
            exact absurd H (by simp)
          rw [if_pos c6] at H
          have c6b0 := eq_true c6
          have c6b1 : decide (0 ≤ (ji5)) = true := decide_eq_true c6
          clear c6
          obtain ⟨ji7, hji7⟩ : ∃ j_ : Int, (shl .u64 (IntKind.u64.wrap (rd l0 x5_1)) (ji5)) = j_ := ⟨_, rfl⟩
          replace H : (undercroftref01_Number.l0 k1 l0 (Go.bits .or .u64 x4_1 (ji7)) (wrap64 (x5_1 + 1))) = some (r1, r2) := by first | (rw [hji7] at H; exact H) | (simp only [hji7] at H ⊢; exact H)
          have hji7_ : (IntKind.u64.wrap ((IntKind.u64.wrap (rd l0 x5_1)) * 2 ^ min (ji5).toNat 64)) = ji7 := hji7
          have hji7z : (ji5) ≤ 64 → (IntKind.u64.wrap ((IntKind.u64.wrap (rd l0 x5_1)) * 2 ^ (ji5).toNat)) = ji7 := shl_small hji7
          have H' := Aside0.mk H
          clear H
          have p138 : 0 ≤ (x5_1 : Int) := of_decide_eq_true (by first | (with_reducible assumption) | assumption)
          have q138 : x5_1 < (l0.length : Int) := of_decide_eq_true (by first | (with_reducible assumption) | assumption)
          obtain ⟨ad138, e138, hx138_0⟩ := Kd.at_int HR0.out x5_1 p138 q138
          cases e138
          replace p138 := eq_true p138
          replace q138 := eq_true q138
          go_wp2
          go_roundg k1
          case measure => have := HK1.out; omega
          case rel => exact ⟨(Go.bits .or .u64 x4_1 (ji7)), (wrap64 (x5_1 + 1)), (by first | rfl | (simp; done) | (simp only [← hji7] <;> (first | rfl | simp)) | (simp [*]; done)), (by first | rfl | (simp; done) | (simp [*]; done)), H', ⟨by have := HK1.out; omega⟩, by repeat (first | exact Drawn0.refl _ | apply Drawn0.step)⟩
        · rw [if_neg c3] at H
          have c3b0 : decide (x5_1 < (l0.length : Int)) = false := decide_eq_false c3
          clear c3
          simp only [Option.some.injEq, Prod.mk.injEq] at H
          obtain ⟨rfl, rfl⟩ := H
          go_wp2
          go_ret2
          exact ⟨by first | rfl | (simp; done) | (simp [*]; done), by repeat (first | exact Drawn0.refl _ | apply Drawn0.step)⟩
end Go.Proofs.Ytlbfpjhnpnbikaa.U
end
section
namespace Go.Proofs.Ytlbfpjhnpnbikaa.Pure
open Go Go.RowKit Go.Proofs.Ytlbfpjhnpnbikaa.U Go.Proofs.YtlbfpjhnpnbikaaW.PrintWords Go.Proofs.YtlbfpjhnpnbikaaW.PrintLast Go.Proofs.YtlbfpjhnpnbikaaW.PrintMore
set_option linter.unusedVariables false
set_option linter.unusedSimpArgs false
theorem wrap64_id {x : Int} (h1 : -9223372036854775808 ≤ x) (h2 : x ≤ 9223372036854775807) : wrap64 x = x := by unfold wrap64; omega
theorem u64_wrap (x : Int) : IntKind.u64.wrap x = x % 18446744073709551616 := by simp [IntKind.wrap, IntKind.bits, IntKind.signed]
def num : List Int → Nat
  | [] => 0
  | c :: t => c.toNat + 256 * num t
theorem num_lt : ∀ (l : List Int), X.u8all l = true → num l < 256 ^ l.length
  | [], _ => by simp [num]
  | c :: t, h => by
    have hc := X.u8all_iff.1 h c List.mem_cons_self
    have ht := num_lt t (X.u8all_iff.2 (fun x hx => X.u8all_iff.1 h x (List.mem_cons_of_mem _ hx)))
    simp only [num, List.length_cons, Nat.pow_succ]
    have : c.toNat < 256 := by omega
    omega
theorem num_one (c : Int) : num [c] = c.toNat := by simp [num]
theorem num_append (l m : List Int) : num (l ++ m) = num l + 256 ^ l.length * num m := by
  induction l with
  | nil => simp [num]
  | cons c t ih =>
    simp only [List.cons_append, num, List.length_cons, Nat.pow_succ, ih, Nat.mul_add]
    rw [Nat.mul_comm (256 ^ t.length) 256, ← Nat.mul_assoc]
    omega
theorem or_join (k x y : Nat) (hx : x < 2 ^ k) (h : x + y * 2 ^ k < 18446744073709551616) : Go.bits .or .u64 (x : Int) ((y * 2 ^ k : Nat) : Int) = ((x + y * 2 ^ k : Nat) : Int) := by
  have hp : 0 < 2 ^ k := Nat.two_pow_pos k
  show IntKind.u64.wrap _ = _
  rw [u64_wrap]
  show ((BitVec.ofInt 64 (x : Int) ||| BitVec.ofInt 64 ((y * 2 ^ k : Nat) : Int)).toNat : Int) % _ = _
  rw [BitVec.ofInt_natCast, BitVec.ofInt_natCast, BitVec.toNat_or, BitVec.toNat_ofNat, BitVec.toNat_ofNat, Nat.mod_eq_of_lt (by omega), Nat.mod_eq_of_lt (by omega)]
  have : x ||| y * 2 ^ k = x + y * 2 ^ k := by
    rw [Nat.mul_comm, Nat.or_comm, ← Nat.two_pow_add_eq_or_of_lt hx, Nat.add_comm]
  rw [this]
  omega
theorem or_comm64 (a b : Int) : Go.bits .or .u64 a b = Go.bits .or .u64 b a := by
  show IntKind.u64.wrap ((BitVec.ofInt 64 a ||| BitVec.ofInt 64 b).toNat : Int) = IntKind.u64.wrap ((BitVec.ofInt 64 b ||| BitVec.ofInt 64 a).toNat : Int)
  rw [BitVec.or_comm]
theorem number_l0 (l : List Int) (h : X.u8all l = true) (h8 : l.length ≤ 8) : ∀ (i k : Nat), i ≤ l.length → i < k →
    crc_Number.l0 k l (num (l.drop i) : Int) ((i : Int) - 1) = some ((num l : Int), true)
  | 0, k, _, hk => by
    obtain ⟨k, rfl⟩ : ∃ m, k = m + 1 := ⟨k - 1, by omega⟩
    rw [crc_Number.l0, if_neg (by omega)]
    rfl
  | i + 1, k, hi, hk => by
    obtain ⟨k, rfl⟩ : ∃ m, k = m + 1 := ⟨k - 1, by omega⟩
    have ih := number_l0 l h h8 i k (by omega) (by omega)
    have hc := X.u8all_at h i (by omega)
    have he : l.drop i = l.getD i 0 :: l.drop (i + 1) := by
      rw [List.drop_eq_getElem_cons (by omega), List.getD_eq_getElem?_getD, List.getElem?_eq_getElem (by omega)]
      rfl
    have hlt := num_lt _ (X.u8all_drop h (i + 1))
    rw [List.length_drop] at hlt
    have hle : 256 ^ (l.length - (i + 1)) ≤ 256 ^ 7 := Nat.pow_le_pow_right (by decide) (by omega)
    have hnum : num (l.drop i) = (l.getD i 0).toNat + 256 * num (l.drop (i + 1)) := by rw [he]; rfl
    have e1 : ((i + 1 : Nat) : Int) - 1 = (i : Int) := by omega
    rw [e1, crc_Number.l0, if_pos (by omega), if_pos (by omega), if_pos (by omega)]
    have hrd : rd l (i : Int) = l.getD i 0 := by unfold rd; rw [Int.toNat_natCast]
    have hw : wrap64 ((i : Int) - 1) = (i : Int) - 1 := wrap64_id (by omega) (by omega)
    rw [hrd, hw]
    generalize l.getD i 0 = c at *
    obtain ⟨n, rfl⟩ := Int.eq_ofNat_of_zero_le hc.1
    rw [Int.toNat_natCast] at hnum
    have hor := or_join 8 n (num (l.drop (i + 1))) (by omega) (by omega)
    have e2 : IntKind.u64.wrap ((num (l.drop (i + 1)) : Int) * 256) = ((num (l.drop (i + 1)) * 2 ^ 8 : Nat) : Int) := by rw [u64_wrap]; omega
    have e3 : IntKind.u64.wrap ((n : Nat) : Int) = (n : Int) := by rw [u64_wrap]; omega
    rw [e2, e3, or_comm64, hor, show n + num (l.drop (i + 1)) * 2 ^ 8 = num (l.drop i) from by rw [hnum]; omega]
    exact ih
theorem number_f (l : List Int) (h : X.u8all l = true) (k : Nat) (hk : 8 < k) : crc_Number.f k l = some (if l.length ≤ 8 then ((num l : Int), true) else (0, false)) := by
  unfold crc_Number.f
  by_cases h8 : l.length ≤ 8
  · rw [if_neg (by omega), if_pos h8]
    have := number_l0 l h h8 l.length k (by omega) (by omega)
    rw [List.drop_of_length_le (Nat.le_refl _)] at this
    rw [wrap64_id (by omega) (by omega)]
    exact this
  · rw [if_pos (by omega), if_neg h8]
def bytesN (v : Int) (n : Nat) : List Int := (List.range n).map (fun i => (v / 2 ^ (8 * i)) % 256)
def clamp8 (n : Int) : Nat := (mx 0 (mn n 8)).toNat
theorem clamp8_le (n : Int) : clamp8 n ≤ 8 := by unfold clamp8 mx mn; split <;> split <;> omega
theorem bytesN_length (v : Int) (n : Nat) : (bytesN v n).length = n := by simp [bytesN]
theorem bytesN_u8 (v : Int) (n : Nat) : X.u8all (bytesN v n) = true := by
  refine X.u8all_iff.2 (fun c hc => ?_)
  obtain ⟨i, _, rfl⟩ := List.mem_map.1 hc
  exact ⟨Int.emod_nonneg _ (by decide), Int.emod_lt_of_pos _ (by decide)⟩
theorem shr_byte (v : Int) (i : Nat) (hi : i ≤ 8) : shr .u64 v ((8 * i : Nat) : Int) = v / 2 ^ (8 * i) := by
  unfold shr
  rw [Int.toNat_natCast, Nat.min_eq_left (by show 8 * i ≤ 64; omega)]
theorem bytesN_succ (v : Int) (n : Nat) : bytesN v (n + 1) = bytesN v n ++ [(v / 2 ^ (8 * n)) % 256] := by
  unfold bytesN
  rw [List.range_succ, List.map_append]
  rfl
theorem bytes_l0 (v : Int) (n : Nat) (hn : n ≤ 8) : ∀ (d i k : Nat), i + d = n → d < k →
    crc_Bytes.l0 k v (bytesN v i ++ List.replicate d 0) (n : Int) (i : Int) = some (bytesN v n)
  | 0, i, k, hi, hk => by
    obtain ⟨k, rfl⟩ : ∃ m, k = m + 1 := ⟨k - 1, by omega⟩
    rw [crc_Bytes.l0, if_neg (by omega), show i = n from by omega]
    simp
  | d + 1, i, k, hi, hk => by
    obtain ⟨k, rfl⟩ : ∃ m, k = m + 1 := ⟨k - 1, by omega⟩
    have ih := bytes_l0 v n hn d (i + 1) k (by omega) (by omega)
    have hw : wrap64 ((i : Int) + 1) = ((i + 1 : Nat) : Int) := by rw [wrap64_id (by omega) (by omega)]; omega
    have hw8 : wrap64 (8 * (i : Int)) = ((8 * i : Nat) : Int) := by rw [wrap64_id (by omega) (by omega)]; omega
    rw [crc_Bytes.l0, if_pos (by omega), hw8, if_pos (by omega), if_pos (by omega), if_pos (by rw [List.length_append, bytesN_length, List.length_replicate]; omega), hw, shr_byte v i (by omega), Int.toNat_natCast]
    have he : (bytesN v i ++ List.replicate (d + 1) 0).set i ((v / 2 ^ (8 * i)) % 256) = bytesN v (i + 1) ++ List.replicate d 0 := by
      rw [List.set_append_right _ _ (by rw [bytesN_length]; exact Nat.le_refl _), bytesN_length, Nat.sub_self, List.replicate_succ, List.set_cons_zero, bytesN_succ, List.append_assoc]
      rfl
    rw [he]
    exact ih
theorem bytes_f (v n : Int) (k : Nat) (hk : 8 < k) : crc_Bytes.f k v n = some (bytesN v (clamp8 n)) := by
  have h8 := clamp8_le n
  unfold crc_Bytes.f
  have h0 : 0 ≤ mx 0 (mn n 8) := by unfold mx; split <;> omega
  rw [if_pos h0]
  show (if clamp8 n ≤ _ then _ else _) = _
  rw [if_pos (by omega)]
  show crc_Bytes.l0 k v (List.replicate (clamp8 n) 0) _ 0 = _
  have := bytes_l0 v (clamp8 n) h8 (clamp8 n) 0 k (by omega) (by omega)
  rw [List.length_replicate]
  exact this
theorem num_bytesN (v : Nat) (n : Nat) : num (bytesN (v : Int) n) = v % 256 ^ n := by
  induction n with
  | zero => simp [bytesN, num, Nat.mod_one]
  | succ n ih =>
    rw [bytesN_succ, num_append, ih, bytesN_length]
    have : ((v : Int) / 2 ^ (8 * n)) % 256 = ((v / 256 ^ n % 256 : Nat) : Int) := by
      have hp : ((2 : Int) ^ (8 * n)) = ((256 ^ n : Nat) : Int) := by rw [Int.natCast_pow, Int.pow_mul]; rfl
      rw [hp]
      show ((v : Int) / ((256 ^ n : Nat) : Int)) % ((256 : Nat) : Int) = _
      rw [← Int.natCast_ediv, ← Int.natCast_emod]
    rw [this]
    rw [num_one, Int.toNat_natCast, Nat.pow_succ, Nat.mod_mul]
end Go.Proofs.Ytlbfpjhnpnbikaa.Pure
end
