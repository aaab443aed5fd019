/- PCrc: what this claim uses. Laid by slim.py (ours). -/
import Derived.Test.YtpihpabofgmahaaKUx2
import Derived.Test.YtpihpabofgmahaaKUx5
import Derived.Test.YtpihpabofgmahaaKUx8
import Derived.Test.YtpihpabofgmahaaKUx15
import Derived.Test.YtpihpabofgmahaaKUx16
import Derived.Test.YtpihpabofgmahaaKUx22
import Derived.Test.YtpihpabofgmahaaKXCrc2
namespace Go.Proofs.Ytpihpabofgmahaa.Pure
open Go Go.RowKit Go.Proofs.Ytpihpabofgmahaa.U Go.Proofs.YtpihpabofgmahaaW.PrintWords Go.Proofs.YtpihpabofgmahaaW.PrintLast Go.Proofs.YtpihpabofgmahaaW.PrintMore
set_option linter.unusedVariables false
set_option linter.unusedSimpArgs false
theorem wrap64_id {x : Int} (h1 : -9223372036854775808 ≤ x) (h2 : x ≤ 9223372036854775807) : wrap64 x = x := by unfold wrap64; omega
def num : List Int → Nat
  | [] => 0
  | c :: t => c.toNat + 256 * num t
theorem num_one (c : Int) : num [c] = c.toNat := by simp [num]
theorem num_append (l m : List Int) : num (l ++ m) = num l + 256 ^ l.length * num m := by
  induction l with
  | nil => simp [num]
  | cons c t ih =>
    simp only [List.cons_append, num, List.length_cons, Nat.pow_succ, ih, Nat.mul_add]
    rw [Nat.mul_comm (256 ^ t.length) 256, ← Nat.mul_assoc]
    omega
def bytesN (v : Int) (n : Nat) : List Int := (List.range n).map (fun i => (v / 2 ^ (8 * i)) % 256)
theorem bytesN_length (v : Int) (n : Nat) : (bytesN v n).length = n := by simp [bytesN]
theorem bytesN_succ (v : Int) (n : Nat) : bytesN v (n + 1) = bytesN v n ++ [(v / 2 ^ (8 * n)) % 256] := by
  unfold bytesN
  rw [List.range_succ, List.map_append]
  rfl
theorem num_bytesN (v : Nat) (n : Nat) : num (bytesN (v : Int) n) = v % 256 ^ n := by
  induction n with
  | zero => simp [bytesN, num, Nat.mod_one]
  | succ n ih =>
    rw [bytesN_succ, num_append, ih, bytesN_length]
    have : ((v : Int) / 2 ^ (8 * n)) % 256 = ((v / 256 ^ n % 256 : Nat) : Int) := by
      have hp : ((2 : Int) ^ (8 * n)) = ((256 ^ n : Nat) : Int) := by rw [Int.natCast_pow, Int.pow_mul]; rfl
      rw [hp]
      show ((v : Int) / ((256 ^ n : Nat) : Int)) % ((256 : Nat) : Int) = _
      rw [← Int.natCast_ediv, ← Int.natCast_emod]
    rw [this]
    rw [num_one, Int.toNat_natCast, Nat.pow_succ, Nat.mod_mul]
end Go.Proofs.Ytpihpabofgmahaa.Pure
