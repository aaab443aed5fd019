/- XCrc XCrc2: what this claim uses. Laid by slim.py (ours). -/
import Derived.Test.YtlbfpjhnpnbikaaKXWords
section
namespace Go.Proofs.Ytlbfpjhnpnbikaa.X
open Go Go.Proofs.YtlbfpjhnpnbikaaW.PrintWords
def stepV (w : BitVec 32) : BitVec 32 := (w >>> 1) ^^^ (if w.getLsbD 0 then 0x82f63b78#32 else 0#32)
def stepN : Nat → BitVec 32 → BitVec 32
  | 0, w => w
  | n + 1, w => stepN n (stepV w)
def byteV (w : BitVec 32) (c : Int) : BitVec 32 := stepN 8 (w ^^^ BitVec.ofInt 32 c)
def regV (s : BitVec 32) (l : List Int) : BitVec 32 := l.foldl byteV s
def crcMore (a0 : Int) (l : List Int) : Int := ((~~~ (regV (~~~ (BitVec.ofInt 32 a0)) l)).toNat : Int)
def notN (v : BitVec 32) : Int := ((~~~ v).toNat : Int)
def u8all (l : List Int) : Bool := l.all (fun c => decide (0 ≤ c) && decide (c < 256))
theorem u8all_iff {l : List Int} : u8all l = true ↔ ∀ c ∈ l, 0 ≤ c ∧ c < 256 := by
  simp [u8all, List.all_eq_true]
theorem wrap_u32 (n : Int) : IntKind.u32.wrap n = n % 4294967296 := IntKind.wrap_u32 n
theorem bits_xor_u32 (x y : Int) : Go.bits .xor .u32 x y = ((BitVec.ofInt 32 x ^^^ BitVec.ofInt 32 y).toNat : Int) := by
  show IntKind.u32.wrap _ = _
  rw [IntKind.wrap_u32]
  have := (BitVec.ofInt 32 x ^^^ BitVec.ofInt 32 y).isLt
  show ((BitVec.ofInt 32 x ^^^ BitVec.ofInt 32 y).toNat : Int) % 4294967296 = _
  omega
theorem bits_and_u32 (x y : Int) : Go.bits .and .u32 x y = ((BitVec.ofInt 32 x &&& BitVec.ofInt 32 y).toNat : Int) := by
  show IntKind.u32.wrap _ = _
  rw [IntKind.wrap_u32]
  have := (BitVec.ofInt 32 x &&& BitVec.ofInt 32 y).isLt
  show ((BitVec.ofInt 32 x &&& BitVec.ofInt 32 y).toNat : Int) % 4294967296 = _
  omega
theorem ofInt_toNat32 (w : BitVec 32) : BitVec.ofInt 32 (w.toNat : Int) = w := by simp
theorem ofInt_div (w : BitVec 32) (k : Nat) : BitVec.ofInt 32 ((w.toNat : Int) / 2 ^ k) = w >>> k := by
  have h : ((w.toNat : Int) / 2 ^ k) = ((w.toNat / 2 ^ k : Nat) : Int) := by norm_cast
  rw [h, BitVec.ofInt_natCast]
  apply BitVec.eq_of_toNat_eq
  have := w.isLt
  have h2 : w.toNat / 2 ^ k ≤ w.toNat := Nat.div_le_self _ _
  simp [BitVec.toNat_ushiftRight, Nat.shiftRight_eq_div_pow]
  exact Nat.lt_of_le_of_lt h2 this
theorem ofInt_mod32 (x : Int) : BitVec.ofInt 32 (x % 4294967296) = BitVec.ofInt 32 x := by
  apply BitVec.eq_of_toInt_eq
  simp only [BitVec.toInt_ofInt]
  exact Int.emod_bmod x 4294967296
theorem poly_and (w : BitVec 32) : BitVec.ofInt 32 2197175160 &&& BitVec.ofInt 32 ((-((w &&& 1#32).toNat : Int)) % 4294967296) = if w.getLsbD 0 then 0x82f63b78#32 else 0#32 := by
  rw [ofInt_mod32]
  have h : w &&& 1#32 = if w.getLsbD 0 then 1#32 else 0#32 := by
    apply BitVec.eq_of_getLsbD_eq
    intro i hi
    by_cases h0 : i = 0
    · subst h0
      rw [BitVec.getLsbD_and]
      cases hb : w.getLsbD 0 <;> rfl
    · rw [BitVec.getLsbD_and]
      cases hb : w.getLsbD 0 <;> simp [BitVec.getLsbD_one, h0]
  rw [h]
  cases w.getLsbD 0 <;> decide
theorem step_crc (w : BitVec 32) : Go.bits .xor .u32 ((w.toNat : Int) / 2) (Go.bits .and .u32 2197175160 ((-(Go.bits .and .u32 (w.toNat : Int) 1)) % 4294967296)) = ((stepV w).toNat : Int) := by
  have h1 : Go.bits .and .u32 (w.toNat : Int) 1 = ((w &&& 1#32).toNat : Int) := by
    rw [bits_and_u32, ofInt_toNat32]; rfl
  rw [h1, bits_and_u32, poly_and, bits_xor_u32, ofInt_toNat32]
  have h2 := ofInt_div w 1
  rw [Int.pow_one] at h2
  rw [h2]
  rfl
theorem stepV_xor (a b : BitVec 32) : stepV (a ^^^ b) = stepV a ^^^ stepV b := by
  unfold stepV
  rw [BitVec.ushiftRight_xor_distrib, BitVec.getLsbD_xor]
  cases a.getLsbD 0 <;> cases b.getLsbD 0 <;> apply BitVec.eq_of_getLsbD_eq <;> intro i hi <;> simp [Bool.xor_comm, Bool.xor_left_comm]
theorem stepN_xor (n : Nat) (a b : BitVec 32) : stepN n (a ^^^ b) = stepN n a ^^^ stepN n b := by
  induction n generalizing a b with
  | zero => rfl
  | succ n ih => simp only [stepN]; rw [stepV_xor, ih]
theorem stepN_add (m n : Nat) (w : BitVec 32) : stepN (m + n) w = stepN n (stepN m w) := by
  induction m generalizing w with
  | zero => rw [Nat.zero_add]; rfl
  | succ m ih => rw [Nat.succ_add]; exact ih _
theorem stepN_shift (n : Nat) (w : BitVec 32) (h : ∀ i, i < n → w.getLsbD i = false) : stepN n w = w >>> n := by
  induction n generalizing w with
  | zero => simp [stepN]
  | succ n ih =>
    simp only [stepN]
    have h1 : stepV w = w >>> 1 := by
      unfold stepV
      rw [h 0 (by omega)]
      simp
    rw [h1, ih (w >>> 1) (fun i hi => by simp; exact h (1 + i) (by omega))]
    apply BitVec.eq_of_getLsbD_eq
    intro i hi
    simp
    rw [show 1 + (n + i) = n + 1 + i from by omega]
theorem stepN_split (n : Nat) (m w : BitVec 32) (hm : ∀ i, m.getLsbD i = decide (i < n ∧ i < 32)) : stepN n w = (w >>> n) ^^^ stepN n (w &&& m) := by
  have e : w = (w &&& ~~~ m) ^^^ (w &&& m) := by
    apply BitVec.eq_of_getLsbD_eq
    intro i hi
    simp only [BitVec.getLsbD_xor, BitVec.getLsbD_and, BitVec.getLsbD_not, hi, decide_true, Bool.true_and]
    cases w.getLsbD i <;> cases m.getLsbD i <;> rfl
  have hs : (w &&& ~~~ m) >>> n = w >>> n := by
    apply BitVec.eq_of_getLsbD_eq
    intro i hi
    simp [hm]
    intro h1
    have : n + i < 32 := BitVec.lt_of_getLsbD h1
    exact this
  have hz : stepN n (w &&& ~~~ m) = (w &&& ~~~ m) >>> n := by
    refine stepN_shift n _ (fun i hi => ?_)
    by_cases h32 : i < 32
    · rw [BitVec.getLsbD_and, BitVec.getLsbD_not, hm, decide_eq_true h32, decide_eq_true ⟨hi, h32⟩]
      simp
    · exact BitVec.getLsbD_of_ge _ _ (Nat.le_of_not_lt h32)
  calc stepN n w = stepN n ((w &&& ~~~ m) ^^^ (w &&& m)) := by rw [← e]
    _ = stepN n (w &&& ~~~ m) ^^^ stepN n (w &&& m) := stepN_xor n _ _
    _ = (w >>> n) ^^^ stepN n (w &&& m) := by rw [hz, hs]
theorem mask15 : ∀ i, (15#32).getLsbD i = decide (i < 4 ∧ i < 32) := by
  intro i
  by_cases h : i < 32
  · revert h i; decide
  · simp [BitVec.getLsbD_of_ge _ _ (Nat.le_of_not_lt h), h]
theorem mask255 : ∀ i, (255#32).getLsbD i = decide (i < 8 ∧ i < 32) := by
  intro i
  by_cases h : i < 32
  · revert h i; decide
  · simp [BitVec.getLsbD_of_ge _ _ (Nat.le_of_not_lt h), h]
theorem step4 (w : BitVec 32) : stepN 4 w = (w >>> 4) ^^^ stepN 4 (w &&& 15#32) := stepN_split 4 _ w mask15
theorem step8 (w : BitVec 32) : stepN 8 w = (w >>> 8) ^^^ stepN 8 (w &&& 255#32) := stepN_split 8 _ w mask255
theorem xor_byte (a : BitVec 32) (c : Int) : Go.bits .xor .u32 (a.toNat : Int) c = ((a ^^^ BitVec.ofInt 32 c).toNat : Int) := by
  rw [bits_xor_u32, ofInt_toNat32]
theorem and_15 (a : BitVec 32) : Go.bits .and .u32 (a.toNat : Int) 15 = ((a &&& 15#32).toNat : Int) := by
  rw [bits_and_u32, ofInt_toNat32]; rfl
theorem xor_div16 (a b : BitVec 32) : Go.bits .xor .u32 ((a.toNat : Int) / 16) (b.toNat : Int) = ((a >>> 4 ^^^ b).toNat : Int) := by
  have h2 := ofInt_div a 4
  rw [show ((2 : Int) ^ 4) = 16 from rfl] at h2
  rw [bits_xor_u32, h2, ofInt_toNat32]
theorem xor_div256 (a b : BitVec 32) : Go.bits .xor .u32 ((a.toNat : Int) / 256) (b.toNat : Int) = ((a >>> 8 ^^^ b).toNat : Int) := by
  have h2 := ofInt_div a 8
  rw [show ((2 : Int) ^ 8) = 256 from rfl] at h2
  rw [bits_xor_u32, h2, ofInt_toNat32]
theorem not_word (x : Int) : Go.bits .xor .u32 4294967295 x = ((~~~ (BitVec.ofInt 32 x)).toNat : Int) := by
  rw [bits_xor_u32]
  have : BitVec.ofInt 32 4294967295 = BitVec.allOnes 32 := by decide
  rw [this, BitVec.allOnes_xor]
theorem byteV_halves (w : BitVec 32) (c : Int) : byteV w c = (((w ^^^ BitVec.ofInt 32 c) >>> 4 ^^^ stepN 4 ((w ^^^ BitVec.ofInt 32 c) &&& 15#32)) >>> 4 ^^^ stepN 4 (((w ^^^ BitVec.ofInt 32 c) >>> 4 ^^^ stepN 4 ((w ^^^ BitVec.ofInt 32 c) &&& 15#32)) &&& 15#32)) := by
  unfold byteV
  rw [show (8 : Nat) = 4 + 4 from rfl, stepN_add, step4 (stepN 4 (w ^^^ BitVec.ofInt 32 c)), step4 (w ^^^ BitVec.ofInt 32 c)]
theorem table_place (w : BitVec 32) (c : Int) (h0 : 0 ≤ c) (h1 : c < 256) : Go.bits .xor .u8 ((w.toNat : Int) % 256) c = (((w ^^^ BitVec.ofInt 32 c) &&& 255#32).toNat : Int) := by
  obtain ⟨n, rfl⟩ := Int.eq_ofNat_of_zero_le h0
  have hn : n < 256 := by omega
  show IntKind.u8.wrap _ = _
  rw [IntKind.wrap_u8]
  show ((BitVec.ofInt 8 ((w.toNat : Int) % 256) ^^^ BitVec.ofInt 8 (n : Int)).toNat : Int) % 256 = _
  have e1 : ((w.toNat : Int) % 256) = ((w.toNat % 256 : Nat) : Int) := by omega
  rw [e1, BitVec.ofInt_natCast, BitVec.ofInt_natCast, BitVec.ofInt_natCast]
  have e2 : (BitVec.ofNat 8 (w.toNat % 256) ^^^ BitVec.ofNat 8 n).toNat = ((w ^^^ BitVec.ofNat 32 n) &&& 255#32).toNat := by
    rw [BitVec.toNat_xor, BitVec.toNat_and, BitVec.toNat_xor]
    simp only [BitVec.toNat_ofNat]
    rw [show (255 % 2 ^ 32) = 2 ^ 8 - 1 from rfl, Nat.and_two_pow_sub_one_eq_mod, Nat.xor_mod_two_pow]
    congr 1 <;> omega
  rw [e2]
  have := Nat.lt_of_le_of_lt (Nat.le_of_eq e2.symm) (BitVec.ofNat 8 (w.toNat % 256) ^^^ BitVec.ofNat 8 n).isLt
  omega
theorem byteV_table (w : BitVec 32) (c : Int) : byteV w c = (w ^^^ BitVec.ofInt 32 c) >>> 8 ^^^ stepN 8 ((w ^^^ BitVec.ofInt 32 c) &&& 255#32) := by
  unfold byteV
  exact step8 _
theorem shift_byte (w : BitVec 32) (c : Int) (h0 : 0 ≤ c) (h1 : c < 256) : (w ^^^ BitVec.ofInt 32 c) >>> 8 = w >>> 8 := by
  obtain ⟨n, rfl⟩ := Int.eq_ofNat_of_zero_le h0
  rw [BitVec.ushiftRight_xor_distrib, BitVec.ofInt_natCast]
  have : (BitVec.ofNat 32 n) >>> 8 = 0#32 := by
    apply BitVec.eq_of_toNat_eq
    rw [BitVec.toNat_ushiftRight, BitVec.toNat_ofNat, Nat.shiftRight_eq_div_pow]
    simp only [BitVec.toNat_ofNat]
    omega
  rw [this, BitVec.xor_zero]
theorem regV_snoc (s : BitVec 32) (l : List Int) (k : Nat) (h : k < l.length) : regV s (l.take (k + 1)) = byteV (regV s (l.take k)) (l.getD k 0) := by
  unfold regV
  rw [List.take_succ_eq_append_getElem h, List.foldl_append, List.getD_eq_getElem?_getD, List.getElem?_eq_getElem h]
  rfl
theorem u8all_at {l : List Int} (h : u8all l = true) (k : Nat) (hk : k < l.length) : 0 ≤ l.getD k 0 ∧ l.getD k 0 < 256 := by
  rw [List.getD_eq_getElem?_getD, List.getElem?_eq_getElem hk]
  exact u8all_iff.1 h _ (List.getElem_mem hk)
end Go.Proofs.Ytlbfpjhnpnbikaa.X
end
section
namespace Go.Proofs.Ytlbfpjhnpnbikaa.X
open Go Go.Proofs.YtlbfpjhnpnbikaaW.PrintWords
def le : List Int → Nat
  | [] => 0
  | c :: t => c.toNat ^^^ (le t * 256)
theorem u8all_append {l m : List Int} : u8all (l ++ m) = true ↔ u8all l = true ∧ u8all m = true := by
  rw [u8all_iff, u8all_iff, u8all_iff]
  simp only [List.mem_append]
  exact ⟨fun h => ⟨fun c hc => h c (.inl hc), fun c hc => h c (.inr hc)⟩, fun h c hc => hc.elim (h.1 c) (h.2 c)⟩
theorem u8all_take {l : List Int} (h : u8all l = true) (n : Nat) : u8all (l.take n) = true := u8all_iff.2 (fun c hc => u8all_iff.1 h c (List.mem_of_mem_take hc))
theorem u8all_drop {l : List Int} (h : u8all l = true) (n : Nat) : u8all (l.drop n) = true := u8all_iff.2 (fun c hc => u8all_iff.1 h c (List.mem_of_mem_drop hc))
theorem u8all_wf {l : List Int} (h : ∀ x ∈ l, (Lit.int .u8 x).wf = true) : u8all l = true := by
  refine u8all_iff.2 (fun c hc => ?_)
  have := h c hc
  simp [Lit.wf, IntKind.max, IntKind.min, IntKind.bits, IntKind.signed] at this
  omega
theorem crcMore_range (a : Int) (l : List Int) : 0 ≤ crcMore a l ∧ crcMore a l < 4294967296 := by
  unfold crcMore
  have := (~~~ (regV (~~~ (BitVec.ofInt 32 a)) l)).isLt
  omega
end Go.Proofs.Ytlbfpjhnpnbikaa.X
end
