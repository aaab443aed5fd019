/- Bytes with no bit turned are the bytes. -/
import Derived.Test.YtpihpabofgmahaaUx5
import Derived.Test.YtpihpabofgmahaaPCrc2
import Derived.Test.YtpihpabofgmahaaXCrc3
namespace Go.Proofs.Ytpihpabofgmahaa.Pure
open Go Go.RowKit Go.Proofs.Ytpihpabofgmahaa.U Go.Proofs.YtpihpabofgmahaaW.PrintWords Go.Proofs.YtpihpabofgmahaaW.PrintLast Go.Proofs.YtpihpabofgmahaaW.PrintMore
set_option linter.unusedVariables false
set_option linter.unusedSimpArgs false
/-- What a message with its sum behind it comes to, whatever the message. -/
def residueV : Nat := X.sNn 32 4294967295
theorem residue (a : Int) (l : List Int) : (X.regV (~~~ (BitVec.ofInt 32 a)) (l ++ bytesN (X.crcMore a l) 4)).toNat = residueV := by
  rw [X.regV_append, X.reg_le _ (bytesN_u8 _ _), bytesN_length]
  have hx : X.crcMore a l = (((~~~ (X.regV (~~~ (BitVec.ofInt 32 a)) l)).toNat : Nat) : Int) := rfl
  rw [hx, le_bytesN4 _ (~~~ (X.regV (~~~ (BitVec.ofInt 32 a)) l)).isLt]
  have : (X.regV (~~~ (BitVec.ofInt 32 a)) l).toNat ^^^ (~~~ (X.regV (~~~ (BitVec.ofInt 32 a)) l)).toNat = 4294967295 := by
    rw [← BitVec.toNat_xor]
    have h : ∀ v : BitVec 32, v ^^^ ~~~ v = BitVec.allOnes 32 := fun v => by
      apply BitVec.eq_of_getLsbD_eq
      intro i hi
      simp only [BitVec.getLsbD_xor, BitVec.getLsbD_not, hi, decide_true, Bool.true_and, BitVec.getLsbD_allOnes]
      cases v.getLsbD i <;> rfl
    rw [h]
    rfl
  rw [this]
  rfl
/-- Two messages with their sums behind them and the same bytes behind that do not differ within 32 bits side by side. -/
theorem no_burst (a : Int) (h h' z : List Int) (hh : X.u8all h = true) (hh' : X.u8all h' = true) (hz : X.u8all z = true) (hn : h'.length = h.length) (W first : Nat) (hW : W < 2 ^ 32) (h0 : W ≠ 0)
    (hf : first ≤ 8 * (h ++ bytesN (X.crcMore a h) 4 ++ z).length) (he : X.le (h' ++ bytesN (X.crcMore a h') 4 ++ z) = X.le (h ++ bytesN (X.crcMore a h) 4 ++ z) ^^^ (W * 2 ^ first)) : False := by
  refine X.reg_burst (h ++ bytesN (X.crcMore a h) 4 ++ z) (h' ++ bytesN (X.crcMore a h') 4 ++ z) (X.u8all_append.2 ⟨X.u8all_append.2 ⟨hh, bytesN_u8 _ _⟩, hz⟩) (X.u8all_append.2 ⟨X.u8all_append.2 ⟨hh', bytesN_u8 _ _⟩, hz⟩) (by simp [bytesN_length, hn]) (~~~ (BitVec.ofInt 32 a)) W first hW h0 hf he ?_
  rw [X.regV_append, X.regV_append _ (h ++ bytesN (X.crcMore a h) 4)]
  congr 1
  apply BitVec.eq_of_toNat_eq
  rw [residue, residue]

theorem flipTo_same (n8 first burst : Nat) (l : List Int) (j : Nat) (h : X.flipped n8 first burst j = false) : X.flipTo n8 first burst l j = l := by
  induction j with
  | zero => rfl
  | succ j ih =>
    simp only [X.flipped, Bool.or_eq_false_iff] at h
    simp only [X.flipTo]
    rw [if_neg (by rw [h.1]; decide)]
    exact ih h.2
end Go.Proofs.Ytpihpabofgmahaa.Pure
