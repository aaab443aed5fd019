/- XCrc2: what this claim uses. Laid by slim.py (ours). -/
import Derived.Test.YtpihpabofgmahaaKXCrc
namespace Go.Proofs.Ytpihpabofgmahaa.X
open Go Go.Proofs.YtpihpabofgmahaaW.PrintWords
def le : List Int → Nat
  | [] => 0
  | c :: t => c.toNat ^^^ (le t * 256)
theorem u8all_append {l m : List Int} : u8all (l ++ m) = true ↔ u8all l = true ∧ u8all m = true := by
  rw [u8all_iff, u8all_iff, u8all_iff]
  simp only [List.mem_append]
  exact ⟨fun h => ⟨fun c hc => h c (.inl hc), fun c hc => h c (.inr hc)⟩, fun h c hc => hc.elim (h.1 c) (h.2 c)⟩
theorem u8all_take {l : List Int} (h : u8all l = true) (n : Nat) : u8all (l.take n) = true := u8all_iff.2 (fun c hc => u8all_iff.1 h c (List.mem_of_mem_take hc))
theorem u8all_drop {l : List Int} (h : u8all l = true) (n : Nat) : u8all (l.drop n) = true := u8all_iff.2 (fun c hc => u8all_iff.1 h c (List.mem_of_mem_drop hc))
theorem u8all_wf {l : List Int} (h : ∀ x ∈ l, (Lit.int .u8 x).wf = true) : u8all l = true := by
  refine u8all_iff.2 (fun c hc => ?_)
  have := h c hc
  simp [Lit.wf, IntKind.max, IntKind.min, IntKind.bits, IntKind.signed] at this
  omega
theorem crcMore_range (a : Int) (l : List Int) : 0 ≤ crcMore a l ∧ crcMore a l < 4294967296 := by
  unfold crcMore
  have := (~~~ (regV (~~~ (BitVec.ofInt 32 a)) l)).isLt
  omega
end Go.Proofs.Ytpihpabofgmahaa.X
