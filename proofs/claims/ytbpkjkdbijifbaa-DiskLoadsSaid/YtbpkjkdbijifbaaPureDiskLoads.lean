/- DiskLoads: a disk is loaded from a copy of the bytes handed in, and answers with copies; no condition. -/
import Derived.Test.YtbpkjkdbijifbaaUx11
namespace Go.Proofs.Ytbpkjkdbijifbaa.Pure
open Go Go.RowKit Go.Proofs.Ytbpkjkdbijifbaa.U Go.Proofs.YtbpkjkdbijifbaaW.PrintWords Go.Proofs.YtbpkjkdbijifbaaW.PrintLast Go.Proofs.YtbpkjkdbijifbaaW.PrintMore
set_option linter.unusedVariables false
set_option linter.unusedSimpArgs false
theorem DiskLoads (l0 : List Int) (a1 : Int) {H1 : Prop} (hw0 : ∀ y ∈ l0, (Lit.int .u8 y).wf = true) (y0 : l0.length * 1 ≤ 140737488351232) (w1 : H1) : undercroftlaw02_DiskLoads.f l0 a1 = some true := by
  unfold undercroftlaw02_DiskLoads.f
  have h1 : X.u8all l0 = true := by
    refine X.u8all_iff.2 (fun c hc => ?_)
    have h := hw0 c hc
    simp [Lit.wf, IntKind.min, IntKind.max, IntKind.bits, IntKind.signed] at h
    omega
  rw [h1, show decide (l0.length ≤ 140737488351232) = true from decide_eq_true (by omega)]
  rfl
end Go.Proofs.Ytbpkjkdbijifbaa.Pure
