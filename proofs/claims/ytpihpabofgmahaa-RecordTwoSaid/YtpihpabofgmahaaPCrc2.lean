/- Bytes as a number, strings of bytes, and what stands behind its own sum. -/
import Derived.Test.YtpihpabofgmahaaUx5
import Derived.Test.YtpihpabofgmahaaPCrc
import Derived.Test.YtpihpabofgmahaaXCrc3
namespace Go.Proofs.Ytpihpabofgmahaa.Pure
open Go Go.RowKit Go.Proofs.Ytpihpabofgmahaa.U Go.Proofs.YtpihpabofgmahaaW.PrintWords Go.Proofs.YtpihpabofgmahaaW.PrintLast Go.Proofs.YtpihpabofgmahaaW.PrintMore
set_option linter.unusedVariables false
set_option linter.unusedSimpArgs false
theorem xor_disj (x m : Nat) (hx : x < 256) : x ^^^ (m * 256) = x + 256 * m := by
  apply Nat.eq_of_testBit_eq
  intro j
  have h := Nat.testBit_two_pow_mul_add m (b := x) (i := 8) (show x < 2 ^ 8 from hx) j
  have e : x + 256 * m = 2 ^ 8 * m + x := by rw [Nat.add_comm]
  rw [e, h, Nat.testBit_xor, show m * 256 = m * 2 ^ 8 from by rw [show (2 : Nat) ^ 8 = 256 from by decide], Nat.testBit_mul_two_pow]
  by_cases hj : j < 8
  · rw [if_pos hj, decide_eq_false (by omega), Bool.false_and, Bool.xor_false]
  · have hx2 : x.testBit j = false := Nat.testBit_lt_two_pow (Nat.lt_of_lt_of_le (show x < 2 ^ 8 from hx) (Nat.pow_le_pow_right (by decide) (by omega)))
    rw [if_neg hj, decide_eq_true (by omega), Bool.true_and, hx2, Bool.false_xor]
theorem le_num : ∀ (l : List Int), X.u8all l = true → X.le l = num l
  | [], _ => rfl
  | c :: t, h => by
    have hc := X.u8all_iff.1 h c List.mem_cons_self
    have ih := le_num t (X.u8all_iff.2 (fun x hx => X.u8all_iff.1 h x (List.mem_cons_of_mem _ hx)))
    simp only [X.le, num]
    rw [ih, xor_disj _ _ (by omega)]
theorem num_inj : ∀ (l m : List Int), X.u8all l = true → X.u8all m = true → l.length = m.length → num l = num m → l = m
  | [], [], _, _, _, _ => rfl
  | [], _ :: _, _, _, h, _ => by simp at h
  | _ :: _, [], _, _, h, _ => by simp at h
  | c :: t, d :: s, hl, hm, hn, h => by
    have hc := X.u8all_iff.1 hl c List.mem_cons_self
    have hd := X.u8all_iff.1 hm d List.mem_cons_self
    simp only [num] at h
    have e1 : c.toNat = d.toNat := by omega
    have e2 := num_inj t s (X.u8all_iff.2 (fun x hx => X.u8all_iff.1 hl x (List.mem_cons_of_mem _ hx))) (X.u8all_iff.2 (fun x hx => X.u8all_iff.1 hm x (List.mem_cons_of_mem _ hx))) (by simpa using hn) (by omega)
    rw [e2, show c = d from by omega]
theorem le_bytesN4 (v : Nat) (hv : v < 4294967296) : X.le (bytesN (v : Int) 4) = v := by
  rw [le_num _ (bytesN_u8 _ _), num_bytesN]
  exact Nat.mod_eq_of_lt hv
/-! ### strings -/
theorem str_map (l : List Int) : (strOfNums l).toList = l.map (fun c => UInt8.ofNat c.toNat) := by
  simp [strOfNums, ByteArray.toList_eq]
theorem str_inj {l m : List Int} (hl : X.u8all l = true) (hm : X.u8all m = true) : (strOfNums l).toList = (strOfNums m).toList ↔ l = m := by
  constructor
  · intro h
    rw [str_map, str_map] at h
    have hlen : l.length = m.length := by simpa using congrArg List.length h
    apply List.ext_getElem hlen
    intro i h1 h2
    have hi := congrArg (fun z => z[i]?) h
    simp only [List.getElem?_map, List.getElem?_eq_getElem h1, List.getElem?_eq_getElem h2, Option.map_some, Option.some.injEq] at hi
    have a1 := X.u8all_iff.1 hl _ (List.getElem_mem h1)
    have a2 := X.u8all_iff.1 hm _ (List.getElem_mem h2)
    have hv := congrArg UInt8.toNat hi
    simp only [UInt8.toNat_ofNat'] at hv
    omega
  · intro h; rw [h]
end Go.Proofs.Ytpihpabofgmahaa.Pure
