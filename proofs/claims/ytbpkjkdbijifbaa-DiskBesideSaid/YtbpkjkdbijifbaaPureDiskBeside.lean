/- DiskBeside: what is read of a block is changed by no write to another one, no flush and no settling; no condition. -/
import Derived.Test.YtbpkjkdbijifbaaUx14
namespace Go.Proofs.Ytbpkjkdbijifbaa.Pure
open Go Go.RowKit Go.Proofs.Ytbpkjkdbijifbaa.U Go.Proofs.YtbpkjkdbijifbaaW.PrintWords Go.Proofs.YtbpkjkdbijifbaaW.PrintLast Go.Proofs.YtbpkjkdbijifbaaW.PrintMore
set_option linter.unusedVariables false
set_option linter.unusedSimpArgs false
theorem DiskBeside (l0 : List S24) (a1 : Int) (hw0 : ∀ x ∈ l0, (Lit.int .i64 x.f0).wf = true ∧ (Lit.int .i64 x.f1).wf = true ∧ (Lit.int .u8 x.f2).wf = true ∧ True ∧ (∀ y ∈ x.f4, (Lit.int .u8 y).wf = true) ∧ x.f4.length * 1 ≤ 140737488351232) (y0 : l0.length * 48 ≤ 140737488351232) (w1 : (Lit.int .i64 a1).wf = true) : undercroftlaw02_DiskBeside.f l0 a1 = some true := rfl
end Go.Proofs.Ytbpkjkdbijifbaa.Pure
