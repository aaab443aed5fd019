/- DiskFuse: behind a blown fuse all is read as if nothing were wrong, and a crash leaves what one ahead of the first lost operation would have left; no condition. -/
import Derived.Test.YtbpkjkdbijifbaaUx16
namespace Go.Proofs.Ytbpkjkdbijifbaa.Pure
open Go Go.RowKit Go.Proofs.Ytbpkjkdbijifbaa.U Go.Proofs.YtbpkjkdbijifbaaW.PrintWords Go.Proofs.YtbpkjkdbijifbaaW.PrintLast Go.Proofs.YtbpkjkdbijifbaaW.PrintMore
set_option linter.unusedVariables false
set_option linter.unusedSimpArgs false
theorem DiskFuse (l0 : List S24) (a1 : Int) (l2 : List Int) {K0 : Prop} (hw0 : ∀ x ∈ l0, (Lit.int .i64 x.f0).wf = true ∧ (Lit.int .i64 x.f1).wf = true ∧ (Lit.int .u8 x.f2).wf = true ∧ True ∧ (∀ y ∈ x.f4, (Lit.int .u8 y).wf = true) ∧ x.f4.length * 1 ≤ 140737488351232) (y0 : l0.length * 48 ≤ 140737488351232)
    (w1 : (Lit.int .i64 a1).wf = true) (hw2 : K0) (y2 : l2.length * 1 ≤ 140737488351232) : undercroftlaw02_DiskFuse.f l0 a1 l2 = some true := rfl
end Go.Proofs.Ytbpkjkdbijifbaa.Pure
