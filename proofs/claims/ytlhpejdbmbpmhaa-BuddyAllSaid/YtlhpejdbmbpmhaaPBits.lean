/- What the maps of bits come to: bit by bit. -/
import Derived.Test.YtlhpejdbmbpmhaaUx2
import Derived.Test.YtlhpejdbmbpmhaaUx3
import Derived.Test.YtlhpejdbmbpmhaaUx4
import Derived.Test.YtlhpejdbmbpmhaaUx5
import Derived.Test.YtlhpejdbmbpmhaaUx16
import Derived.Test.YtlhpejdbmbpmhaaUx17
import Derived.Test.YtlhpejdbmbpmhaaUx25
import Derived.Test.YtlhpejdbmbpmhaaXBitsN
namespace Go.Proofs.Ytlhpejdbmbpmhaa.Pure
open Go Go.RowKit Go.Proofs.Ytlhpejdbmbpmhaa.U Go.Proofs.YtlhpejdbmbpmhaaW.PrintWords Go.Proofs.YtlhpejdbmbpmhaaW.PrintLast Go.Proofs.YtlhpejdbmbpmhaaW.PrintMore
set_option linter.unusedVariables false
set_option linter.unusedSimpArgs false
open X (cntP firP)
theorem wrap_id {n : Int} (h0 : -9223372036854775808 ≤ n) (h1 : n ≤ 9223372036854775807) : wrap64 n = n := by unfold wrap64; omega
/-- Bit i of a map. -/
def bitN (l : List Int) (i : Nat) : Bool := (l.getD (i / 8) 0).toNat.testBit (i % 8)
def getB (l : List Int) (i : Int) : Bool := decide (0 ≤ i ∧ i < 8 * (l.length : Int)) && bitN l i.toNat
theorem byteN {l : List Int} (hl : X.u8all l = true) (q : Nat) : ∃ c : Nat, l.getD q 0 = (c : Int) ∧ c < 256 := by
  by_cases hq : q < l.length
  · have := X.u8all_at hl q hq
    exact ⟨(l.getD q 0).toNat, by omega, by omega⟩
  · exact ⟨0, by simp [List.getD, List.getElem?_eq_none (by omega : l.length ≤ q)], by decide⟩
theorem and_u8N (x y : Nat) (hx : x < 256) (hy : y < 256) : Go.bits .and .u8 (x : Int) (y : Int) = ((x &&& y : Nat) : Int) := by
  show IntKind.u8.wrap ((BitVec.ofInt 8 (x : Int) &&& BitVec.ofInt 8 (y : Int)).toNat : Int) = _
  rw [IntKind.wrap_u8, BitVec.ofInt_natCast, BitVec.ofInt_natCast, BitVec.toNat_and, BitVec.toNat_ofNat, BitVec.toNat_ofNat, Nat.mod_eq_of_lt hx, Nat.mod_eq_of_lt hy]
  have : x &&& y < 2 ^ 8 := Nat.lt_of_le_of_lt Nat.and_le_left hx
  omega
theorem or_u8N (x y : Nat) (hx : x < 256) (hy : y < 256) : Go.bits .or .u8 (x : Int) (y : Int) = ((x ||| y : Nat) : Int) := by
  show IntKind.u8.wrap ((BitVec.ofInt 8 (x : Int) ||| BitVec.ofInt 8 (y : Int)).toNat : Int) = _
  rw [IntKind.wrap_u8, BitVec.ofInt_natCast, BitVec.ofInt_natCast, BitVec.toNat_or, BitVec.toNat_ofNat, BitVec.toNat_ofNat, Nat.mod_eq_of_lt hx, Nat.mod_eq_of_lt hy]
  have : x ||| y < 2 ^ 8 := Nat.or_lt_two_pow hx hy
  omega
theorem andNot_u8N (x y : Nat) (hx : x < 256) (hy : y < 256) : ∃ z : Nat, Go.bits .andNot .u8 (x : Int) (y : Int) = (z : Int) ∧ z < 256 ∧ ∀ i, i < 8 → z.testBit i = (x.testBit i && !y.testBit i) := by
  refine ⟨(BitVec.ofInt 8 (x : Int) &&& ~~~ (BitVec.ofInt 8 (y : Int))).toNat, ?_, (BitVec.ofInt 8 (x : Int) &&& ~~~ (BitVec.ofInt 8 (y : Int))).isLt, ?_⟩
  · show IntKind.u8.wrap ((BitVec.ofInt 8 (x : Int) &&& ~~~ (BitVec.ofInt 8 (y : Int))).toNat : Int) = _
    rw [IntKind.wrap_u8]
    have := (BitVec.ofInt 8 (x : Int) &&& ~~~ (BitVec.ofInt 8 (y : Int))).isLt
    omega
  · intro i hi
    have e : ∀ v : BitVec 8, v.toNat.testBit i = v.getLsbD i := fun v => rfl
    rw [e, BitVec.getLsbD_and, BitVec.getLsbD_not, ← e, ← e, BitVec.ofInt_natCast, BitVec.ofInt_natCast, BitVec.toNat_ofNat, BitVec.toNat_ofNat, Nat.mod_eq_of_lt hx, Nat.mod_eq_of_lt hy]
    simp [hi]
theorem not_u8N (x : Nat) (hx : x < 256) : ∃ z : Nat, Go.bits .xor .u8 IntKind.u8.max (x : Int) = (z : Int) ∧ z < 256 ∧ ∀ i, i < 8 → z.testBit i = !x.testBit i := by
  refine ⟨x ^^^ 255, ?_, Nat.xor_lt_two_pow (n := 8) hx (by decide), ?_⟩
  · show IntKind.u8.wrap ((BitVec.ofInt 8 255 ^^^ BitVec.ofInt 8 (x : Int)).toNat : Int) = _
    rw [IntKind.wrap_u8, BitVec.ofInt_natCast, BitVec.toNat_xor, BitVec.toNat_ofNat, Nat.mod_eq_of_lt hx]
    have : x ^^^ 255 < 2 ^ 8 := Nat.xor_lt_two_pow hx (by decide)
    have e : (BitVec.ofInt 8 255).toNat = 255 := rfl
    rw [e, Nat.xor_comm]
    omega
  · intro i hi
    rw [Nat.testBit_xor, show (255 : Nat) = 2 ^ 8 - 1 from rfl, Nat.testBit_two_pow_sub_one]
    simp [hi]
/-- A round: it begins at f, in a byte; it ends before the byte does. -/
theorem round_tells (f b : Nat) (h : f < b) : ∃ s e : Nat, s < e ∧ e ≤ 8 ∧ f = 8 * (f / 8) + s ∧ f % 8 = s ∧ bits_each.fin (b : Int) (f : Int) = ((8 * (f / 8) + e : Nat) : Int) ∧ 8 * (f / 8) + e ≤ b ∧ bits_each.mask (b : Int) (f : Int) = (X.maskN s e : Int) := by
  have hf : bits_each.fin (b : Int) (f : Int) = ((min b (8 * (f / 8 + 1)) : Nat) : Int) := by unfold bits_each.fin; split <;> omega
  refine ⟨f % 8, min b (8 * (f / 8 + 1)) - 8 * (f / 8), by omega, by omega, by omega, rfl, by rw [hf]; omega, by omega, ?_⟩
  unfold bits_each.mask
  rw [hf]
  generalize hs : f % 8 = s
  generalize he : min b (8 * (f / 8 + 1)) - 8 * (f / 8) = e
  have e1 : ((f : Int) % 8).toNat = s := by omega
  have e2 : (8 * ((f : Int) / 8 + 1) - ((min b (8 * (f / 8 + 1)) : Nat) : Int)).toNat = 8 - e := by omega
  rw [e1, e2]
  have e3 : (255 * 2 ^ s % 256 : Int) = (((255 * 2 ^ s) % 256 : Nat) : Int) := by
    rw [Int.natCast_emod, Int.natCast_mul, Int.natCast_pow]
    rfl
  have e4 : (255 / 2 ^ (8 - e) : Int) = ((255 / 2 ^ (8 - e) : Nat) : Int) := by
    rw [Int.natCast_ediv, Int.natCast_pow]
    rfl
  rw [e3, e4, and_u8N _ _ (Nat.mod_lt _ (by decide)) (Nat.lt_of_le_of_lt (Nat.div_le_self _ _) (by decide))]
  rfl
theorem bitN_byte {l : List Int} {q c i : Nat} (hc : l.getD q 0 = (c : Int)) (hi : i < 8) : bitN l (8 * q + i) = c.testBit i := by
  unfold bitN
  rw [show (8 * q + i) / 8 = q from by omega, show (8 * q + i) % 8 = i from by omega, hc, Int.toNat_natCast]
theorem rd_byte (l : List Int) (f : Nat) : rd l ((f : Int) / 8) = l.getD (f / 8) 0 := by
  unfold rd
  rw [show ((f : Int) / 8).toNat = f / 8 from by omega]
theorem count_l0 (l : List Int) (hl : X.u8all l = true) (b : Nat) (hb : b ≤ 8 * l.length) (hm : l.length ≤ 140737488355328) : ∀ (d k f n : Nat), f + d = b → n ≤ f → d < k → bits_Count.l0 k l (b : Int) (n : Int) (f : Int) = some ((n + cntP (bitN l) f d : Nat) : Int) := by
  intro d
  induction d using Nat.strongRecOn with
  | ind d ih =>
    intro k f n hd hn hk
    obtain ⟨k, rfl⟩ : ∃ m, k = m + 1 := ⟨k - 1, by omega⟩
    rw [bits_Count.l0]
    by_cases h0 : d = 0
    · subst h0
      rw [if_neg (by omega)]
      rfl
    · obtain ⟨s, e, h1, h2, h3, h4, h5, h6, h7⟩ := round_tells f b (by omega)
      obtain ⟨c, hc, hc2⟩ := byteN hl (f / 8)
      rw [if_pos (by omega), if_pos (by omega), rd_byte, hc, h7, and_u8N _ _ hc2 (X.mask_lt h1 h2)]
      have hz : c &&& X.maskN s e < 256 := Nat.lt_of_le_of_lt Nat.and_le_left hc2
      unfold bits_OnesCount8.f
      rw [if_pos (by omega), Option.bind_some, Int.toNat_natCast, X.pop8_mask h1 h2, h5]
      have hcn : cntP c.testBit s (e - s) = cntP (bitN l) f (e - s) := by
        have := X.cntP_shift (bitN l) (8 * (f / 8)) s (e - s)
        rw [← h3] at this
        rw [← this]
        exact X.cntP_congr (fun i hi1 hi2 => (bitN_byte hc (by omega)).symm)
      have hle := X.cntP_le (bitN l) f (e - s)
      rw [hcn, wrap_id (by omega) (by omega)]
      have := ih (d - (e - s)) (by omega) k (8 * (f / 8) + e) (n + cntP (bitN l) f (e - s)) (by omega) (by omega) (by omega)
      rw [show ((n : Int) + ((cntP (bitN l) f (e - s) : Nat) : Int)) = ((n + cntP (bitN l) f (e - s) : Nat) : Int) from by omega, this]
      have hsp := X.cntP_add (bitN l) f (e - s) (d - (e - s))
      rw [show (e - s) + (d - (e - s)) = d from by omega, show f + (e - s) = 8 * (f / 8) + e from by omega] at hsp
      rw [hsp, Nat.add_assoc]
/-- The bits that are there. -/
def loN (a1 : Int) : Nat := (mx a1 0).toNat
def hiN (l : List Int) (a2 : Int) : Nat := (mn a2 (8 * (l.length : Int))).toNat
theorem lo_eq (a1 : Int) : mx a1 0 = (loN a1 : Int) := by unfold loN mx; omega
theorem wrap8 (l : List Int) (hm : l.length ≤ 140737488355328) : wrap64 (8 * (l.length : Int)) = 8 * (l.length : Int) := wrap_id (by omega) (by omega)
theorem hi_le (l : List Int) (a2 : Int) : hiN l a2 ≤ 8 * l.length := by unfold hiN mn; omega
theorem count_f (l : List Int) (hl : X.u8all l = true) (hm : l.length ≤ 140737488355328) (a1 a2 : Int) (k : Nat) (hk : 8 * l.length + 1 < k) : bits_Count.f k l a1 a2 = some ((cntP (bitN l) (loN a1) (hiN l a2 - loN a1) : Nat) : Int) := by
  unfold bits_Count.f
  rw [if_pos hm, wrap8 l hm, lo_eq]
  have hh := hi_le l a2
  by_cases h : (loN a1 : Int) < mn a2 (8 * (l.length : Int))
  · have e : mn a2 (8 * (l.length : Int)) = (hiN l a2 : Int) := by unfold hiN; omega
    rw [e] at h ⊢
    have := count_l0 l hl (hiN l a2) hh hm (hiN l a2 - loN a1) k (loN a1) 0 (by omega) (by omega) (by omega)
    rw [Nat.zero_add] at this
    exact this
  · obtain ⟨k, rfl⟩ : ∃ m, k = m + 1 := ⟨k - 1, by omega⟩
    rw [bits_Count.l0, if_neg h, show hiN l a2 - loN a1 = 0 from by unfold hiN; omega]
    rfl
/-! ### the first that is so -/
theorem z_bits (l : List Int) (hl : X.u8all l = true) (v : Bool) (f b : Nat) (h : f < b) (s e : Nat) (h1 : s < e) (h2 : e ≤ 8) (h7 : bits_each.mask (b : Int) (f : Int) = (X.maskN s e : Int)) :
    ∃ z : Nat, bits_First.z l (b : Int) v (f : Int) = (z : Int) ∧ z < 256 ∧ ∀ i, i < 8 → z.testBit i = ((bitN l (8 * (f / 8) + i) == v) && (decide (s ≤ i) && decide (i < e))) := by
  obtain ⟨c, hc, hc2⟩ := byteN hl (f / 8)
  unfold bits_First.z
  rw [rd_byte, hc, h7]
  cases v
  · obtain ⟨z, hz, hz2, hz3⟩ := not_u8N c hc2
    rw [if_neg (by decide), hz, and_u8N _ _ hz2 (X.mask_lt h1 h2)]
    refine ⟨_, rfl, Nat.lt_of_le_of_lt Nat.and_le_left hz2, fun i hi => ?_⟩
    rw [Nat.testBit_and, hz3 i hi, X.mask_bit h1 h2 hi, bitN_byte hc hi]
    cases c.testBit i <;> rfl
  · rw [if_pos rfl, and_u8N _ _ hc2 (X.mask_lt h1 h2)]
    refine ⟨_, rfl, Nat.lt_of_le_of_lt Nat.and_le_left hc2, fun i hi => ?_⟩
    rw [Nat.testBit_and, X.mask_bit h1 h2 hi, bitN_byte hc hi]
    cases c.testBit i <;> rfl
def firI (o : Option Nat) : Int := match o with | some i => (i : Int) | none => -1
theorem first_l0 (l : List Int) (hl : X.u8all l = true) (v : Bool) (b : Nat) (hb : b ≤ 8 * l.length) (hm : l.length ≤ 140737488355328) : ∀ (d k f : Nat), f + d = b → d < k → bits_First.l0 k l (b : Int) v (f : Int) = some (firI (firP (fun i => bitN l i == v) f d)) := by
  intro d
  induction d using Nat.strongRecOn with
  | ind d ih =>
    intro k f hd hk
    obtain ⟨k, rfl⟩ : ∃ m, k = m + 1 := ⟨k - 1, by omega⟩
    rw [bits_First.l0]
    by_cases h0 : d = 0
    · subst h0
      rw [if_neg (by omega)]
      rfl
    · obtain ⟨s, e, h1, h2, h3, h4, h5, h6, h7⟩ := round_tells f b (by omega)
      obtain ⟨z, hz, hz2, hz3⟩ := z_bits l hl v f b (by omega) s e h1 h2 h7
      rw [if_pos (by omega), if_pos (by omega), hz]
      by_cases hz0 : z = 0
      · subst hz0
        have hno : ∀ i, f ≤ i → i < f + (e - s) → (bitN l i == v) = false := by
          intro i hi1 hi2
          have := hz3 (i - 8 * (f / 8)) (by omega)
          rw [Nat.zero_testBit, show 8 * (f / 8) + (i - 8 * (f / 8)) = i from by omega, decide_eq_true (by omega : s ≤ i - 8 * (f / 8)), decide_eq_true (by omega : i - 8 * (f / 8) < e)] at this
          simpa using this.symm
        rw [if_pos (show (((0 : Nat) : Int) = 0) from rfl), h5, ih (d - (e - s)) (by omega) k (8 * (f / 8) + e) (by omega) (by omega)]
        have := X.firP_add (fun i => bitN l i == v) f (e - s) (d - (e - s)) hno
        rw [show (e - s) + (d - (e - s)) = d from by omega, show f + (e - s) = 8 * (f / 8) + e from by omega] at this
        rw [this]
      · obtain ⟨q1, q2, q3⟩ := X.low8_eq hz0 hz2
        rw [if_neg (by omega)]
        unfold bits_TrailingZeros8.f
        rw [if_pos (by omega), Option.bind_some, Int.toNat_natCast]
        have hq := hz3 (X.low8 z) q2
        rw [q1] at hq
        simp only [Bool.true_eq, Bool.and_eq_true, decide_eq_true_eq] at hq
        have hfir : firP (fun i => bitN l i == v) f d = some (8 * (f / 8) + X.low8 z) := by
          rw [X.firP_some]
          refine ⟨by omega, by omega, hq.1, fun j hj1 hj2 => ?_⟩
          have hj := hz3 (j - 8 * (f / 8)) (by omega)
          rw [q3 _ (by omega), show 8 * (f / 8) + (j - 8 * (f / 8)) = j from by omega, decide_eq_true (by omega : s ≤ j - 8 * (f / 8)), decide_eq_true (by omega : j - 8 * (f / 8) < e)] at hj
          simpa using hj.symm
        rw [hfir, wrap_id (by omega) (by omega)]
        congr 1
theorem first_f (l : List Int) (hl : X.u8all l = true) (hm : l.length ≤ 140737488355328) (a1 a2 : Int) (v : Bool) (k : Nat) (hk : 8 * l.length + 1 < k) : bits_First.f k l a1 a2 v = some (firI (firP (fun i => bitN l i == v) (loN a1) (hiN l a2 - loN a1))) := by
  unfold bits_First.f
  rw [if_pos hm, wrap8 l hm, lo_eq]
  have hh := hi_le l a2
  by_cases h : (loN a1 : Int) < mn a2 (8 * (l.length : Int))
  · have e : mn a2 (8 * (l.length : Int)) = (hiN l a2 : Int) := by unfold hiN; omega
    rw [e] at h ⊢
    exact first_l0 l hl v (hiN l a2) hh hm (hiN l a2 - loN a1) k (loN a1) (by omega) (by omega)
  · obtain ⟨k, rfl⟩ : ∃ m, k = m + 1 := ⟨k - 1, by omega⟩
    rw [bits_First.l0, if_neg h, show hiN l a2 - loN a1 = 0 from by unfold hiN; omega]
    rfl
/-! ### filling -/
/-- r is l with the bits from a up to b turned to v. -/
structure IsFill (l : List Int) (a b : Nat) (v : Bool) (r : List Int) : Prop where
  len : r.length = l.length
  u8 : X.u8all r = true
  bits : ∀ i, i < 8 * l.length → bitN r i = if a ≤ i ∧ i < b then v else bitN l i
theorem IsFill.refl (l : List Int) (hl : X.u8all l = true) (a b : Nat) (v : Bool) (h : b ≤ a) : IsFill l a b v l := ⟨rfl, hl, fun i _ => by rw [if_neg (by omega)]⟩
theorem bits_ext {l m : List Int} (hl : X.u8all l = true) (hm : X.u8all m = true) (hn : m.length = l.length) (h : ∀ i, i < 8 * l.length → bitN m i = bitN l i) : m = l := by
  apply List.ext_getElem? 
  intro q
  by_cases hq : q < l.length
  · obtain ⟨c, hc, hc2⟩ := byteN hl q
    obtain ⟨d, hd, hd2⟩ := byteN hm q
    have : d = c := X.byte_ext hd2 hc2 (fun i hi => by rw [← bitN_byte hd hi, ← bitN_byte hc hi]; exact h _ (by omega))
    subst this
    rw [List.getD_eq_getElem?_getD, List.getElem?_eq_getElem hq] at hc
    rw [List.getD_eq_getElem?_getD, List.getElem?_eq_getElem (by omega)] at hd
    rw [List.getElem?_eq_getElem hq, List.getElem?_eq_getElem (by omega)]
    simp only [Option.getD_some] at hc hd
    rw [hc, hd]
  · rw [List.getElem?_eq_none (by omega), List.getElem?_eq_none (by omega)]
theorem IsFill.uniq {l r r' : List Int} {a b : Nat} {v : Bool} (h : IsFill l a b v r) (h' : IsFill l a b v r') : r = r' :=
  bits_ext h'.u8 h.u8 (by rw [h.len, h'.len]) (fun i hi => by rw [h'.len] at hi; rw [h.bits i hi, h'.bits i hi])
theorem bitN_set {l : List Int} {q : Nat} (hq : q < l.length) (z : Nat) (i : Nat) : bitN (l.set q (z : Int)) i = if i / 8 = q then z.testBit (i % 8) else bitN l i := by
  unfold bitN
  rw [List.getD_eq_getElem?_getD, List.getElem?_set]
  by_cases h : i / 8 = q
  · rw [if_pos h.symm, if_pos h, if_pos hq]
    simp
  · rw [if_neg (fun e => h e.symm), if_neg h, ← List.getD_eq_getElem?_getD]
theorem IsFill.step {l r r' : List Int} {a b c : Nat} {v : Bool} (h : IsFill l a b v r) (hab : a ≤ b) (hbc : b ≤ c) (h' : IsFill r b c v r') : IsFill l a c v r' := by
  refine ⟨by rw [h'.len, h.len], h'.u8, fun i hi => ?_⟩
  rw [h'.bits i (by rw [h.len]; exact hi), h.bits i hi]
  by_cases h1 : b ≤ i ∧ i < c
  · rw [if_pos h1, if_pos (by omega)]
  · rw [if_neg h1]
    by_cases h2 : a ≤ i ∧ i < b
    · rw [if_pos h2, if_pos (by omega)]
    · rw [if_neg h2, if_neg (by omega)]
theorem set_byte {l : List Int} (hl : X.u8all l = true) {f b s e z : Nat} {v : Bool} (hf : f < b) (hb : b ≤ 8 * l.length) (h1 : s < e) (h2 : e ≤ 8) (h3 : f = 8 * (f / 8) + s) (h6 : 8 * (f / 8) + e ≤ b) (hz : z < 256)
    (hbit : ∀ i, i < 8 → z.testBit i = if s ≤ i ∧ i < e then v else bitN l (8 * (f / 8) + i)) : IsFill l f (8 * (f / 8) + e) v (l.set (f / 8) (z : Int)) := by
  refine ⟨List.length_set, X.u8all_set hl _ (Int.natCast_nonneg _) (by omega), fun i hi => ?_⟩
  rw [bitN_set (by omega)]
  by_cases h : i / 8 = f / 8
  · rw [if_pos h, hbit _ (Nat.mod_lt _ (by decide)), show 8 * (f / 8) + i % 8 = i from by omega]
    by_cases hh : s ≤ i % 8 ∧ i % 8 < e
    · rw [if_pos hh, if_pos (by omega)]
    · rw [if_neg hh, if_neg (by omega)]
  · rw [if_neg h, if_neg (by omega)]
theorem fill_z (l : List Int) (hl : X.u8all l = true) (v : Bool) (f b : Nat) (s e : Nat) (h1 : s < e) (h2 : e ≤ 8) (h7 : bits_each.mask (b : Int) (f : Int) = (X.maskN s e : Int)) :
    ∃ z : Nat, bits_Fill.z l (b : Int) v (f : Int) = (z : Int) ∧ z < 256 ∧ ∀ i, i < 8 → z.testBit i = if s ≤ i ∧ i < e then v else bitN l (8 * (f / 8) + i) := by
  obtain ⟨c, hc, hc2⟩ := byteN hl (f / 8)
  obtain ⟨y, hy, hy2, hy3⟩ := andNot_u8N c (X.maskN s e) hc2 (X.mask_lt h1 h2)
  unfold bits_Fill.z
  rw [rd_byte, hc, h7, hy]
  cases v
  · rw [if_neg (by decide)]
    refine ⟨y, rfl, hy2, fun i hi => ?_⟩
    rw [hy3 i hi, X.mask_bit h1 h2 hi, bitN_byte hc hi]
    by_cases hh : s ≤ i ∧ i < e
    · rw [if_pos hh, decide_eq_true hh.1, decide_eq_true hh.2]; simp
    · rw [if_neg hh]
      have : (decide (s ≤ i) && decide (i < e)) = false := by simp; omega
      rw [this]; simp
  · rw [if_pos rfl, or_u8N _ _ hy2 (X.mask_lt h1 h2)]
    refine ⟨_, rfl, Nat.or_lt_two_pow (n := 8) hy2 (X.mask_lt h1 h2), fun i hi => ?_⟩
    rw [Nat.testBit_or, hy3 i hi, X.mask_bit h1 h2 hi, bitN_byte hc hi]
    by_cases hh : s ≤ i ∧ i < e
    · rw [if_pos hh, decide_eq_true hh.1, decide_eq_true hh.2]; simp
    · rw [if_neg hh]
      have : (decide (s ≤ i) && decide (i < e)) = false := by simp; omega
      rw [this]; simp
theorem fill_l0 (v : Bool) (b : Nat) : ∀ (d k f : Nat) (l : List Int), X.u8all l = true → b ≤ 8 * l.length → f + d = b → d < k → ∃ r, bits_Fill.l0 k l (b : Int) v (f : Int) = some r ∧ IsFill l f b v r := by
  intro d
  induction d using Nat.strongRecOn with
  | ind d ih =>
    intro k f l hl hb hd hk
    obtain ⟨k, rfl⟩ : ∃ m, k = m + 1 := ⟨k - 1, by omega⟩
    rw [bits_Fill.l0]
    by_cases h0 : d = 0
    · subst h0
      exact ⟨l, by rw [if_neg (by omega)], IsFill.refl l hl f b v (by omega)⟩
    · obtain ⟨s, e, h1, h2, h3, h4, h5, h6, h7⟩ := round_tells f b (by omega)
      obtain ⟨z, hz, hz2, hz3⟩ := fill_z l hl v f b s e h1 h2 h7
      have hst := set_byte hl (v := v) (by omega : f < b) hb h1 h2 h3 h6 hz2 hz3
      rw [if_pos (by omega), if_pos (by omega), hz, h5, show ((f : Int) / 8).toNat = f / 8 from by omega]
      obtain ⟨r, hr, hfr⟩ := ih (d - (e - s)) (by omega) k (8 * (f / 8) + e) _ hst.u8 (by rw [hst.len]; exact hb) (by omega) (by omega)
      exact ⟨r, hr, hst.step (by omega) (by omega) hfr⟩
theorem fill_f (l : List Int) (hl : X.u8all l = true) (hm : l.length ≤ 140737488351232) (a1 a2 : Int) (v : Bool) (k : Nat) (hk : 8 * l.length + 1 < k) : ∃ r, bits_Fill.f k l a1 a2 v = some r ∧ IsFill l (loN a1) (hiN l a2) v r := by
  unfold bits_Fill.f slices_Clone_byte_byte.f
  rw [if_pos hm, Option.bind_some, wrap8 l (by omega), lo_eq]
  have hh := hi_le l a2
  by_cases h : (loN a1 : Int) < mn a2 (8 * (l.length : Int))
  · have e : mn a2 (8 * (l.length : Int)) = (hiN l a2 : Int) := by unfold hiN; omega
    rw [e] at h ⊢
    exact fill_l0 v (hiN l a2) (hiN l a2 - loN a1) k (loN a1) l hl hh (by omega) (by omega)
  · obtain ⟨k, rfl⟩ : ∃ m, k = m + 1 := ⟨k - 1, by omega⟩
    exact ⟨l, by rw [bits_Fill.l0, if_neg h], IsFill.refl l hl _ _ v (by unfold hiN; omega)⟩
end Go.Proofs.Ytlhpejdbmbpmhaa.Pure
