/- An inode's bytes are read again; with another number, or with bits turned, they are not. -/
import Derived.Test.YtkpkmkgmpggjaaaUx7
import Derived.Test.YtkpkmkgmpggjaaaUx8
import Derived.Test.YtkpkmkgmpggjaaaUx11
import Derived.Test.YtkpkmkgmpggjaaaUx14
import Derived.Test.YtkpkmkgmpggjaaaPInode2
namespace Go.Proofs.Ytkpkmkgmpggjaaa.Pure
open Go Go.RowKit Go.Proofs.Ytkpkmkgmpggjaaa.U Go.Proofs.YtkpkmkgmpggjaaaW.PrintWords Go.Proofs.YtkpkmkgmpggjaaaW.PrintLast Go.Proofs.YtkpkmkgmpggjaaaW.PrintMore
set_option linter.unusedVariables false
set_option linter.unusedSimpArgs false
theorem seg (A B C : List Int) (i j : Nat) (hA : A.length = i) (hB : i + B.length = j) : ((A ++ (B ++ C)).take j).drop i = B := by
  subst hA; subst hB
  rw [List.take_append, List.take_of_length_le (by omega), List.drop_left, show A.length + B.length - A.length = B.length from by omega, List.take_left]
theorem num_word (v : Int) (m : Nat) (h0 : 0 ≤ v) (h1 : v < 18446744073709551616) (h2 : v.toNat < 256 ^ m) : (num (bytesN (IntKind.u64.wrap v) m) : Int) = v := by
  obtain ⟨b, rfl⟩ := Int.eq_ofNat_of_zero_le h0
  have e : IntKind.u64.wrap ((b : Nat) : Int) = (b : Int) := by rw [u64_wrap]; omega
  rw [e, num_bytesN, Nat.mod_eq_of_lt (by rw [Int.toNat_natCast] at h2; exact h2)]
theorem parse_enc (x : Ino) (h : x.ok = true) (n : Int) : inoParse (x.enc n) = x := by
  obtain ⟨⟨k1, k2⟩, ⟨l1, l2⟩, ⟨s1, s2⟩, ⟨t1, t2⟩⟩ := Ino.ok_tells h
  have h60 := Ino.ok_len h
  have e0 : x.enc n = [x.kind % 256, if x.inl = true then 1 else 0] ++ (bytesN (IntKind.u64.wrap x.links) 2 ++ (bytesN (IntKind.u64.wrap x.size) 4 ++ (bytesN (IntKind.u64.wrap x.attrs) 4 ++ (x.body ++ (List.replicate 52 0 ++ bytesN (X.crcMore (inoSeed n) x.hd) 4))))) := by
    unfold Ino.enc
    generalize bytesN (X.crcMore (inoSeed n) x.hd) 4 = s
    unfold Ino.hd
    simp only [List.append_assoc]
  have e1 := seg [x.kind % 256, if x.inl = true then 1 else 0] (bytesN (IntKind.u64.wrap x.links) 2) (bytesN (IntKind.u64.wrap x.size) 4 ++ (bytesN (IntKind.u64.wrap x.attrs) 4 ++ (x.body ++ (List.replicate 52 0 ++ bytesN (X.crcMore (inoSeed n) x.hd) 4)))) 2 4 rfl (by rw [bytesN_length])
  have e2 := seg ([x.kind % 256, if x.inl = true then 1 else 0] ++ bytesN (IntKind.u64.wrap x.links) 2) (bytesN (IntKind.u64.wrap x.size) 4) (bytesN (IntKind.u64.wrap x.attrs) 4 ++ (x.body ++ (List.replicate 52 0 ++ bytesN (X.crcMore (inoSeed n) x.hd) 4))) 4 8 (by simp [bytesN_length]) (by rw [bytesN_length])
  have e3 := seg ([x.kind % 256, if x.inl = true then 1 else 0] ++ bytesN (IntKind.u64.wrap x.links) 2 ++ bytesN (IntKind.u64.wrap x.size) 4) (bytesN (IntKind.u64.wrap x.attrs) 4) (x.body ++ (List.replicate 52 0 ++ bytesN (X.crcMore (inoSeed n) x.hd) 4)) 8 12 (by simp [bytesN_length]) (by rw [bytesN_length])
  have e4 := seg ([x.kind % 256, if x.inl = true then 1 else 0] ++ bytesN (IntKind.u64.wrap x.links) 2 ++ bytesN (IntKind.u64.wrap x.size) 4 ++ bytesN (IntKind.u64.wrap x.attrs) 4) x.body (List.replicate 52 0 ++ bytesN (X.crcMore (inoSeed n) x.hd) 4) 12 72 (by simp [bytesN_length]) (by rw [h60])
  simp only [List.append_assoc] at e1 e2 e3 e4
  rw [← e0] at e1 e2 e3 e4
  unfold inoParse
  rw [e1, e2, e3, e4, num_word x.links 2 l1 (by omega) (by omega), num_word x.size 4 s1 (by omega) (by omega), num_word x.attrs 4 t1 (by omega) (by omega)]
  have r0 : rd (x.enc n) 0 = x.kind % 256 := by rw [e0]; rfl
  have r1 : rd (x.enc n) 1 = if x.inl = true then 1 else 0 := by rw [e0]; rfl
  rw [r0, r1, Int.emod_eq_of_lt (by omega) (by omega)]
  obtain ⟨kind, links, size, inl, attrs, body⟩ := x
  cases inl <;> rfl
theorem enc_ne (x : Ino) (h : x.ok = true) (n : Int) : x.enc n ≠ List.replicate 128 0 := by
  intro e
  have hk := (Ino.ok_tells h).1
  have := congrArg (fun l => rd l 0) e
  have r0 : rd (x.enc n) 0 = x.kind % 256 := rfl
  have r1 : rd (List.replicate 128 (0 : Int)) 0 = 0 := rfl
  simp only [r0, r1] at this
  omega
theorem encOf_ok (x : Ino) (h : x.ok = true) (n : Int) (hn : 0 ≤ n ∧ n ≤ 1048576) : encOf x n = (x.enc n, 0) := by
  unfold encOf
  rw [if_pos hn, if_neg (by rw [Ino.ok_none h]; decide), if_pos h]
theorem dec_enc (x : Ino) (h : x.ok = true) (n : Int) (hn : 0 ≤ n ∧ n ≤ 1048576) : decOf (x.enc n) n = (x, 0) := by
  unfold decOf
  rw [if_pos hn, if_pos (Ino.enc_length (Ino.ok_len h) n), if_neg (enc_ne x h n), parse_enc x h n, encOf_ok x h n hn, if_pos ⟨rfl, rfl⟩]
theorem dec_zero (n : Int) (hn : 0 ≤ n ∧ n ≤ 1048576) : decOf (List.replicate 128 0) n = (Ino.zero, 0) := by
  unfold decOf
  rw [if_pos hn, if_pos (List.length_replicate ..), if_pos rfl]
theorem le_append : ∀ (l m : List Int), X.le (l ++ m) = X.le l ^^^ (X.le m * 2 ^ (8 * l.length))
  | [], m => by simp [X.le]
  | c :: t, m => by
    have ih := le_append t m
    simp only [List.cons_append, X.le, ih, List.length_cons]
    rw [show (256 : Nat) = 2 ^ 8 from rfl, X.xor_mul, Nat.xor_assoc, Nat.mul_assoc, ← Nat.pow_add, show 8 * t.length + 8 = 8 * (t.length + 1) from by omega]
theorem enc_other (x : Ino) (h : x.ok = true) (hb : X.u8all x.body = true) (n m : Int) (hn : 0 ≤ n ∧ n ≤ 1048576) (hm : 0 ≤ m ∧ m ≤ 1048576) (hne : m ≠ n) : x.enc m ≠ x.enc n := by
  intro e
  have e1 := List.append_cancel_left (show x.hd ++ _ = x.hd ++ _ from e)
  have rm := X.crcMore_range (inoSeed m) x.hd
  have rn := X.crcMore_range (inoSeed n) x.hd
  have e2 : X.crcMore (inoSeed m) x.hd = X.crcMore (inoSeed n) x.hd := by
    obtain ⟨a, ha⟩ := Int.eq_ofNat_of_zero_le rm.1
    obtain ⟨b, hb'⟩ := Int.eq_ofNat_of_zero_le rn.1
    rw [ha] at rm
    rw [hb'] at rn
    rw [ha, hb'] at e1 ⊢
    have := congrArg X.le e1
    rw [le_bytesN4 a (by omega), le_bytesN4 b (by omega)] at this
    rw [this]
  rw [← inoSeed_append, ← inoSeed_append] at e2
  obtain ⟨a, rfl⟩ := Int.eq_ofNat_of_zero_le hm.1
  obtain ⟨b, rfl⟩ := Int.eq_ofNat_of_zero_le hn.1
  have wa : IntKind.u64.wrap ((a : Nat) : Int) = (a : Int) := by rw [u64_wrap]; omega
  have wb : IntKind.u64.wrap ((b : Nat) : Int) = (b : Int) := by rw [u64_wrap]; omega
  rw [wa, wb] at e2
  refine X.sum_burst (bytesN (b : Int) 4 ++ x.hd) (bytesN (a : Int) 4 ++ x.hd) (X.u8all_append.2 ⟨bytesN_u8 _ _, Ino.hd_u8 hb⟩) (X.u8all_append.2 ⟨bytesN_u8 _ _, Ino.hd_u8 hb⟩) (by simp [bytesN_length]) 0 (a ^^^ b) 0 ?_ ?_ (by omega) ?_ e2
  · exact Nat.xor_lt_two_pow (by omega) (by omega)
  · intro h0
    have : a = b := by
      apply Nat.eq_of_testBit_eq
      intro i
      have := congrArg (fun q => Nat.testBit q i) h0
      simp only [Nat.testBit_xor, Nat.zero_testBit] at this
      cases ha : a.testBit i <;> cases hb' : b.testBit i <;> simp [ha, hb'] at this ⊢
    exact hne (by rw [this])
  · rw [le_append, le_append, bytesN_length, bytesN_length, le_bytesN4 a (by omega), le_bytesN4 b (by omega)]
    apply Nat.eq_of_testBit_eq
    intro i
    rw [Nat.pow_zero, Nat.mul_one]
    simp only [Nat.testBit_xor]
    generalize (X.le x.hd * 2 ^ (8 * 4)).testBit i = p
    cases a.testBit i <;> cases b.testBit i <;> cases p <;> rfl
/-- With another number an inode's bytes are not read. -/
theorem dec_other (x : Ino) (h : x.ok = true) (hb : X.u8all x.body = true) (n m : Int) (hn : 0 ≤ n ∧ n ≤ 1048576) (hne : m ≠ n) : decOf (x.enc n) m = (Ino.zero, if 0 ≤ m ∧ m ≤ 1048576 then 13 else 1) := by
  unfold decOf
  by_cases hm : 0 ≤ m ∧ m ≤ 1048576
  · rw [if_pos hm, if_pos hm, if_pos (Ino.enc_length (Ino.ok_len h) n), if_neg (enc_ne x h n), parse_enc x h n, encOf_ok x h m hm, if_neg (fun hh => enc_other x h hb n m hn hm hne hh.2)]
  · rw [if_neg hm, if_neg hm]
/-! ### the laws' small words -/
theorem same_refl (x : Ino) : undercroftref09_Same.f x.kind x.links x.size x.inl x.attrs x.body x.kind x.links x.size x.inl x.attrs x.body = some true := by
  unfold undercroftref09_Same.f
  simp
def inoOne : Ino := ⟨1, 1, 0, false, 0, List.replicate 60 0⟩
theorem one_ok : inoOne.ok = true := rfl
theorem one_wf : inoOne.Wf := ⟨by decide, by decide, by decide, by decide, zeros_u8' 60, by decide⟩
theorem alive_true (k : Nat) (hk : 8 < k) : undercroftlaw09_alive.f k = some true := by
  have he : inode_Encode.f 1 1 0 false 0 (List.replicate 60 0) 5 = some (inoOne.enc 5, 0) := by
    have := encode_f inoOne one_wf 5
    rw [encOf_ok inoOne one_ok 5 (by decide)] at this
    exact this
  have hu := Ino.enc_u8 one_wf.body 5
  unfold undercroftlaw09_alive.f
  rw [if_pos (by decide), he, Option.bind_some]
  dsimp only
  rw [decode_f _ hu 5 k hk, Option.bind_some, decode_f _ hu 6 k hk, Option.bind_some, dec_enc inoOne one_ok 5 (by decide), dec_other inoOne one_ok one_wf.body 5 6 (by decide) (by decide)]
  have hl := Ino.enc_length (Ino.ok_len one_ok) 5
  rw [if_pos rfl, if_pos (by rw [hl]; rfl), if_pos (by rw [hl]; decide), if_pos (by rfl)]
  rfl
end Go.Proofs.Ytkpkmkgmpggjaaa.Pure
