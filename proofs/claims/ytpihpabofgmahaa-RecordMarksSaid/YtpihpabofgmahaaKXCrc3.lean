/- PRec XCrc3: what this claim uses. Laid by slim.py (ours). -/
import Derived.Test.YtpihpabofgmahaaKUx7
import Derived.Test.YtpihpabofgmahaaKUx14
import Derived.Test.YtpihpabofgmahaaKUx15
import Derived.Test.YtpihpabofgmahaaKUx17
import Derived.Test.YtpihpabofgmahaaKUx18
import Derived.Test.YtpihpabofgmahaaKPCrc
import Derived.Test.YtpihpabofgmahaaKXCrc2
section
namespace Go.Proofs.Ytpihpabofgmahaa.Pure
open Go Go.RowKit Go.Proofs.Ytpihpabofgmahaa.U Go.Proofs.YtpihpabofgmahaaW.PrintWords Go.Proofs.YtpihpabofgmahaaW.PrintLast Go.Proofs.YtpihpabofgmahaaW.PrintMore
set_option linter.unusedVariables false
set_option linter.unusedSimpArgs false
theorem may_facts {ws : List S43} {rs : List Int} (h : mayB ws rs = true) : (1 ≤ ws.length + rs.length ∧ ws.length + rs.length ≤ 58) ∧ (∀ x ∈ ws, x.f1.length = 256) ∧ (∀ x ∈ ws, 0 ≤ x.f0 ∧ x.f0 < 1048576) ∧ (∀ b ∈ rs, 0 ≤ b ∧ b < 1048576) ∧ (slots3 ws rs).Nodup := by
  obtain ⟨hc, hd, hb, hnd⟩ := (mayB_iff ws rs).1 h
  refine ⟨hc, fun x hx => ?_, fun x hx => hb _ ?_, fun b hb' => hb _ ?_, hnd⟩
  · obtain ⟨i, hi, rfl⟩ := List.mem_iff_getElem.1 hx
    have := hd i hi
    rw [List.getD_eq_getElem?_getD, List.getElem?_eq_getElem hi] at this
    exact this
  · unfold slots3
    exact List.mem_append_left _ (List.mem_map_of_mem hx)
  · unfold slots3
    exact List.mem_append_right _ hb'
end Go.Proofs.Ytpihpabofgmahaa.Pure
end
section
namespace Go.Proofs.Ytpihpabofgmahaa.X
open Go Go.Proofs.YtpihpabofgmahaaW Go.Proofs.YtpihpabofgmahaaW.PrintWords
def hit (n8 first burst j : Nat) : Bool := burst.testBit j && decide (first + j < n8)
end Go.Proofs.Ytpihpabofgmahaa.X
end
