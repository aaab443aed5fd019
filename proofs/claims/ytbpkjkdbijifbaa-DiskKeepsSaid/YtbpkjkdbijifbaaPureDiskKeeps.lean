/- DiskKeeps: what was written is read until it is written again, settling changes nothing that is read, and what was flushed stays through any crash; no condition. -/
import Derived.Test.YtbpkjkdbijifbaaUx16
namespace Go.Proofs.Ytbpkjkdbijifbaa.Pure
open Go Go.RowKit Go.Proofs.Ytbpkjkdbijifbaa.U Go.Proofs.YtbpkjkdbijifbaaW.PrintWords Go.Proofs.YtbpkjkdbijifbaaW.PrintLast Go.Proofs.YtbpkjkdbijifbaaW.PrintMore
set_option linter.unusedVariables false
set_option linter.unusedSimpArgs false
theorem DiskKeeps (l0 : List S24) (a1_0 a1_1 a1_2 : Int) (a1_3 : Bool) (l1_4 : List Int) (l2 : List Int) {G0 G1 G2 G3 K0 : Prop} (hw0 : ∀ x ∈ l0, (Lit.int .i64 x.f0).wf = true ∧ (Lit.int .i64 x.f1).wf = true ∧ (Lit.int .u8 x.f2).wf = true ∧ True ∧ (∀ y ∈ x.f4, (Lit.int .u8 y).wf = true) ∧ x.f4.length * 1 ≤ 140737488351232) (y0 : l0.length * 48 ≤ 140737488351232)
    (w1_0 : G0) (w1_1 : G1) (w1_2 : G2) (hw1_4 : G3) (y1_4 : l1_4.length * 1 ≤ 140737488351232) (hw2 : K0) (y2 : l2.length * 1 ≤ 140737488351232) : undercroftlaw02_DiskKeeps.f l0 a1_0 a1_1 a1_2 a1_3 l1_4 l2 = some true := rfl
end Go.Proofs.Ytbpkjkdbijifbaa.Pure
