/- DiskNone: a disk that is none has no blocks, and no call of it panics; no condition. -/
import Derived.Test.YtbpkjkdbijifbaaUx15
namespace Go.Proofs.Ytbpkjkdbijifbaa.Pure
open Go Go.RowKit Go.Proofs.Ytbpkjkdbijifbaa.U Go.Proofs.YtbpkjkdbijifbaaW.PrintWords Go.Proofs.YtbpkjkdbijifbaaW.PrintLast Go.Proofs.YtbpkjkdbijifbaaW.PrintMore
set_option linter.unusedVariables false
set_option linter.unusedSimpArgs false
theorem DiskNone (a0_0 a0_1 a0_2 : Int) (a0_3 : Bool) (l0_4 : List Int) {H0 H1 H2 H3 : Prop} (w0_0 : H0) (w0_1 : H1) (w0_2 : H2) (hw0_4 : H3) (y0_4 : l0_4.length * 1 ≤ 140737488351232) : undercroftlaw02_DiskNone.f a0_0 a0_1 a0_2 a0_3 l0_4 = some true := rfl
end Go.Proofs.Ytbpkjkdbijifbaa.Pure
