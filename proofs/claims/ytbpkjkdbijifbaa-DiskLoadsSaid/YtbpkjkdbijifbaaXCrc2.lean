/- The checksum over whole numbers: a message as one number, linear, and no burst of 32 bits unseen. -/
import Derived.Test.YtbpkjkdbijifbaaXCrc
namespace Go.Proofs.Ytbpkjkdbijifbaa.X
open Go Go.Proofs.YtbpkjkdbijifbaaW.PrintWords

/-- One bit, over numbers of any length. -/
def sN (x : Nat) : Nat := (x / 2) ^^^ (if x % 2 = 1 then 2197175160 else 0)
def sNn : Nat → Nat → Nat
  | 0, x => x
  | n + 1, x => sNn n (sN x)
/-- The bytes as one number, the first lowest. -/
def le : List Int → Nat
  | [] => 0
  | c :: t => c.toNat ^^^ (le t * 256)

theorem sN_xor (a b : Nat) : sN (a ^^^ b) = sN a ^^^ sN b := by
  unfold sN
  have h1 : (a ^^^ b) / 2 = a / 2 ^^^ b / 2 := by
    apply Nat.eq_of_testBit_eq
    intro i
    simp [Nat.testBit_div_two]
  have h2 : (a ^^^ b) % 2 = (a % 2 + b % 2) % 2 := by
    have h := Nat.testBit_xor a b 0
    simp only [Nat.testBit_zero] at h
    revert h
    rcases Nat.mod_two_eq_zero_or_one a with ha | ha <;> rcases Nat.mod_two_eq_zero_or_one b with hb | hb <;> rcases Nat.mod_two_eq_zero_or_one (a ^^^ b) with hx | hx <;> rw [ha, hb, hx] <;> decide
  rw [h1, h2]
  rcases Nat.mod_two_eq_zero_or_one a with ha | ha <;> rcases Nat.mod_two_eq_zero_or_one b with hb | hb <;> simp only [ha, hb]
  · simp
  · simp [Nat.xor_assoc]
  · simp only [if_true, if_false, Nat.zero_ne_one, Nat.xor_zero]
    rw [Nat.xor_assoc, Nat.xor_comm (b / 2), ← Nat.xor_assoc]
  · show a / 2 ^^^ b / 2 ^^^ 0 = a / 2 ^^^ 2197175160 ^^^ (b / 2 ^^^ 2197175160)
    rw [Nat.xor_zero, Nat.xor_assoc, ← Nat.xor_assoc 2197175160, Nat.xor_comm 2197175160 (b / 2), Nat.xor_assoc (b / 2), Nat.xor_self, Nat.xor_zero]
theorem sNn_xor (n : Nat) (a b : Nat) : sNn n (a ^^^ b) = sNn n a ^^^ sNn n b := by
  induction n generalizing a b with
  | zero => rfl
  | succ n ih => simp only [sNn]; rw [sN_xor, ih]
theorem sNn_add (m n x : Nat) : sNn (m + n) x = sNn n (sNn m x) := by
  induction m generalizing x with
  | zero => rw [Nat.zero_add]; rfl
  | succ m ih => rw [Nat.succ_add]; exact ih _
theorem sNn_zero (n : Nat) : sNn n 0 = 0 := by
  induction n with
  | zero => rfl
  | succ n ih => simp only [sNn]; exact ih
theorem sN_even (x : Nat) : sN (x * 2) = x := by
  unfold sN
  rw [if_neg (by omega), Nat.mul_div_cancel _ (by decide), Nat.xor_zero]
theorem sNn_shift (n x : Nat) : sNn n (x * 2 ^ n) = x := by
  induction n generalizing x with
  | zero => simp [sNn]
  | succ n ih => simp only [sNn]; rw [Nat.pow_succ, ← Nat.mul_assoc, sN_even, ih]
theorem sN_lt (x : Nat) (h : x < 2 ^ 32) : sN x < 2 ^ 32 := by
  unfold sN
  apply Nat.xor_lt_two_pow
  · omega
  · split <;> decide
theorem sN_zero (x : Nat) (h : x < 2 ^ 32) (h0 : sN x = 0) : x = 0 := by
  unfold sN at h0
  split at h0
  · have h1 : x / 2 = 2197175160 := by
      have := congrArg (· ^^^ 2197175160) h0
      simp only [Nat.xor_assoc, Nat.xor_self, Nat.xor_zero, Nat.zero_xor] at this
      exact this
    omega
  · rw [Nat.xor_zero] at h0
    omega
theorem sNn_inj (n x : Nat) (h : x < 2 ^ 32) (h0 : sNn n x = 0) : x = 0 := by
  induction n generalizing x with
  | zero => exact h0
  | succ n ih => exact sN_zero x h (ih _ (sN_lt x h) h0)
theorem stepV_nat (w : BitVec 32) : (stepV w).toNat = sN w.toNat := by
  unfold stepV sN
  rw [BitVec.toNat_xor, BitVec.toNat_ushiftRight, Nat.shiftRight_eq_div_pow, Nat.pow_one]
  congr 1
  have h : w.getLsbD 0 = decide (w.toNat % 2 = 1) := by
    rw [BitVec.getLsbD]
    rw [Nat.testBit_zero]
  rw [h]
  by_cases hm : w.toNat % 2 = 1
  · simp [hm]
  · simp [hm]
theorem stepN_nat (n : Nat) (w : BitVec 32) : (stepN n w).toNat = sNn n w.toNat := by
  induction n generalizing w with
  | zero => rfl
  | succ n ih => simp only [stepN, sNn]; rw [ih, stepV_nat]
/-- The register behind some bytes, out of their number. -/
theorem reg_le (l : List Int) (hl : u8all l = true) (r : BitVec 32) : (regV r l).toNat = sNn (8 * l.length) (r.toNat ^^^ le l) := by
  induction l generalizing r with
  | nil => simp [regV, le, sNn]
  | cons c t ih =>
    have hc := u8all_iff.1 hl c List.mem_cons_self
    have ht : u8all t = true := u8all_iff.2 (fun x hx => u8all_iff.1 hl x (List.mem_cons_of_mem _ hx))
    obtain ⟨m, rfl⟩ := Int.eq_ofNat_of_zero_le hc.1
    have hm : m < 256 := by omega
    show (regV (byteV r (m : Int)) t).toNat = _
    rw [ih ht (byteV r (m : Int))]
    simp only [le, List.length_cons, Int.toNat_natCast]
    have key : sNn 8 (le t * 256) = le t := by
      have := sNn_shift 8 (le t)
      rwa [show (2 : Nat) ^ 8 = 256 from by decide] at this
    have e2 : (byteV r (m : Int)).toNat = sNn 8 (r.toNat ^^^ m) := by
      unfold byteV
      rw [stepN_nat, BitVec.toNat_xor, BitVec.ofInt_natCast, BitVec.toNat_ofNat, Nat.mod_eq_of_lt (Nat.lt_trans hm (by decide))]
    rw [show 8 * (t.length + 1) = 8 + 8 * t.length from by omega, sNn_add, ← Nat.xor_assoc, sNn_xor 8, key, e2]
/-- No change within 32 bits side by side goes unseen. -/
theorem reg_burst (l l' : List Int) (hl : u8all l = true) (hl' : u8all l' = true) (hn : l'.length = l.length) (r : BitVec 32) (W first : Nat) (hW : W < 2 ^ 32) (h0 : W ≠ 0)
    (hf : first ≤ 8 * l.length) (he : le l' = le l ^^^ (W * 2 ^ first)) : regV r l' ≠ regV r l := by
  intro h
  have h1 := congrArg BitVec.toNat h
  rw [reg_le l' hl', reg_le l hl, hn, he, ← Nat.xor_assoc, sNn_xor] at h1
  have h2 : sNn (8 * l.length) (W * 2 ^ first) = 0 := by
    have := congrArg (sNn (8 * l.length) (r.toNat ^^^ le l) ^^^ ·) h1
    simp only [Nat.xor_self, ← Nat.xor_assoc, Nat.zero_xor] at this
    exact this
  obtain ⟨d, hd⟩ : ∃ d, 8 * l.length = first + d := ⟨_, (Nat.add_sub_cancel' hf).symm⟩
  rw [hd, sNn_add, sNn_shift] at h2
  exact h0 (sNn_inj d W hW h2)
/-- One byte written anew. -/
theorem le_set (l : List Int) (i : Nat) (v : Int) (hi : i < l.length) : le (l.set i v) = le l ^^^ ((v.toNat ^^^ (l.getD i 0).toNat) * 2 ^ (8 * i)) := by
  induction l generalizing i with
  | nil => exact absurd hi (Nat.not_lt_zero i)
  | cons c t ih =>
    cases i with
    | zero =>
      simp only [List.set_cons_zero, le, List.getD_cons_zero, Nat.mul_zero, Nat.pow_zero, Nat.mul_one]
      rw [Nat.xor_comm c.toNat (le t * 256), Nat.xor_assoc (le t * 256), Nat.xor_comm v.toNat c.toNat, ← Nat.xor_assoc c.toNat c.toNat, Nat.xor_self, Nat.zero_xor, Nat.xor_comm]
    | succ i =>
      have hi' : i < t.length := by simpa using hi
      simp only [List.set_cons_succ, le, List.getD_cons_succ]
      rw [ih i hi', Nat.xor_assoc]
      congr 1
      rw [show 8 * (i + 1) = 8 * i + 8 from by omega, Nat.pow_add, ← Nat.mul_assoc]
      generalize (v.toNat ^^^ (t.getD i 0).toNat) * 2 ^ (8 * i) = z
      rw [show 256 = 2 ^ 8 from rfl]
      apply Nat.eq_of_testBit_eq
      intro j
      rw [Nat.testBit_mul_two_pow, Nat.testBit_xor, Nat.testBit_xor, Nat.testBit_mul_two_pow, Nat.testBit_mul_two_pow]
      cases decide (8 ≤ j) <;> rfl
theorem u8all_set {l : List Int} (h : u8all l = true) (i : Nat) {v : Int} (h0 : 0 ≤ v) (h1 : v < 256) : u8all (l.set i v) = true := by
  refine u8all_iff.2 (fun c hc => ?_)
  rcases List.mem_or_eq_of_mem_set hc with hm | rfl
  · exact u8all_iff.1 h c hm
  · exact ⟨h0, h1⟩
theorem u8all_append {l m : List Int} : u8all (l ++ m) = true ↔ u8all l = true ∧ u8all m = true := by
  rw [u8all_iff, u8all_iff, u8all_iff]
  simp only [List.mem_append]
  exact ⟨fun h => ⟨fun c hc => h c (.inl hc), fun c hc => h c (.inr hc)⟩, fun h c hc => hc.elim (h.1 c) (h.2 c)⟩
theorem u8all_take {l : List Int} (h : u8all l = true) (n : Nat) : u8all (l.take n) = true := u8all_iff.2 (fun c hc => u8all_iff.1 h c (List.mem_of_mem_take hc))
theorem u8all_drop {l : List Int} (h : u8all l = true) (n : Nat) : u8all (l.drop n) = true := u8all_iff.2 (fun c hc => u8all_iff.1 h c (List.mem_of_mem_drop hc))
theorem u8all_wf {l : List Int} (h : ∀ x ∈ l, (Lit.int .u8 x).wf = true) : u8all l = true := by
  refine u8all_iff.2 (fun c hc => ?_)
  have := h c hc
  simp [Lit.wf, IntKind.max, IntKind.min, IntKind.bits, IntKind.signed] at this
  omega

/-! ### sums of more bytes -/
theorem regV_append (r : BitVec 32) (l m : List Int) : regV r (l ++ m) = regV (regV r l) m := List.foldl_append ..
theorem crcMore_append (a : Int) (l m : List Int) : crcMore (crcMore a l) m = crcMore a (l ++ m) := by
  unfold crcMore
  rw [ofInt_toNat32, BitVec.not_not, regV_append]
theorem crcMore_range (a : Int) (l : List Int) : 0 ≤ crcMore a l ∧ crcMore a l < 4294967296 := by
  unfold crcMore
  have := (~~~ (regV (~~~ (BitVec.ofInt 32 a)) l)).isLt
  omega
theorem crcMore_inj {a : Int} {l m : List Int} (h : crcMore a l = crcMore a m) : regV (~~~ (BitVec.ofInt 32 a)) l = regV (~~~ (BitVec.ofInt 32 a)) m := by
  unfold crcMore at h
  have h1 : (~~~ (regV (~~~ (BitVec.ofInt 32 a)) l)).toNat = (~~~ (regV (~~~ (BitVec.ofInt 32 a)) m)).toNat := by omega
  have h2 := BitVec.eq_of_toNat_eq h1
  have h3 := congrArg (~~~ ·) h2
  simpa using h3
/-- A burst changes a sum. -/
theorem sum_burst (l l' : List Int) (hl : u8all l = true) (hl' : u8all l' = true) (hn : l'.length = l.length) (a : Int) (W first : Nat) (hW : W < 2 ^ 32) (h0 : W ≠ 0)
    (hf : first ≤ 8 * l.length) (he : le l' = le l ^^^ (W * 2 ^ first)) : crcMore a l' ≠ crcMore a l := fun h =>
  reg_burst l l' hl hl' hn _ W first hW h0 hf he (crcMore_inj h)
theorem xor_mul (a b n : Nat) : (a ^^^ b) * 2 ^ n = a * 2 ^ n ^^^ b * 2 ^ n := by
  apply Nat.eq_of_testBit_eq
  intro j
  rw [Nat.testBit_mul_two_pow, Nat.testBit_xor, Nat.testBit_xor, Nat.testBit_mul_two_pow, Nat.testBit_mul_two_pow]
  cases decide (n ≤ j) <;> rfl
end Go.Proofs.Ytbpkjkdbijifbaa.X
