/- DiskTears: behind a crash each sector is one that was written there, or the old one; with all bits a crash is a flush; no condition. -/
import Derived.Test.YtbpkjkdbijifbaaUx8
namespace Go.Proofs.Ytbpkjkdbijifbaa.Pure
open Go Go.RowKit Go.Proofs.Ytbpkjkdbijifbaa.U Go.Proofs.YtbpkjkdbijifbaaW.PrintWords Go.Proofs.YtbpkjkdbijifbaaW.PrintLast Go.Proofs.YtbpkjkdbijifbaaW.PrintMore
set_option linter.unusedVariables false
set_option linter.unusedSimpArgs false
theorem DiskTears (a0_0 a0_1 a0_2 : Int) (a0_3 : Bool) (l0_4 : List Int) (a1_0 a1_1 a1_2 : Int) (a1_3 : Bool) (l1_4 : List Int) (l2 : List Int) {H0 H1 H2 H3 G0 G1 G2 G3 K0 : Prop} (w0_0 : H0) (w0_1 : H1) (w0_2 : H2) (hw0_4 : H3) (y0_4 : l0_4.length * 1 ≤ 140737488351232) (w1_0 : G0) (w1_1 : G1) (w1_2 : G2) (hw1_4 : G3) (y1_4 : l1_4.length * 1 ≤ 140737488351232) (hw2 : K0) (y2 : l2.length * 1 ≤ 140737488351232) :
    undercroftlaw02_DiskTears.f a0_0 a0_1 a0_2 a0_3 l0_4 a1_0 a1_1 a1_2 a1_3 l1_4 l2 = some true := rfl
end Go.Proofs.Ytbpkjkdbijifbaa.Pure
