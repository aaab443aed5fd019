/- PureRecordKeeps: what this claim uses. Laid by slim.py (ours). -/
import Derived.Test.YtpihpabofgmahaaKUx29
import Derived.Test.YtpihpabofgmahaaKPRecE
namespace Go.Proofs.Ytpihpabofgmahaa.Pure
open Go Go.RowKit Go.Proofs.Ytpihpabofgmahaa.U Go.Proofs.YtpihpabofgmahaaW.PrintWords Go.Proofs.YtpihpabofgmahaaW.PrintLast Go.Proofs.YtpihpabofgmahaaW.PrintMore
set_option linter.unusedVariables false
set_option linter.unusedSimpArgs false
theorem RecordKeeps (a : Int) (ws : List S43) (rs : List Int) (w0 : (Lit.int .u64 a).wf = true) (hw : ∀ x ∈ ws, (Lit.int .i64 x.f0).wf = true ∧ (∀ c ∈ x.f1, (Lit.int .u8 c).wf = true) ∧ x.f1.length * 1 ≤ 140737488351232) (y1 : ws.length * 32 ≤ 140737488351232) (hr : ∀ x ∈ rs, (Lit.int .i64 x).wf = true) (y2 : rs.length * 8 ≤ 140737488351232) : undercroftlaw03_RecordKeeps.f a ws rs = some true := by
  unfold undercroftlaw03_RecordKeeps.f
  rw [if_pos (recB_iff.2 (came w0 hw y1 hr y2))]
end Go.Proofs.Ytpihpabofgmahaa.Pure
