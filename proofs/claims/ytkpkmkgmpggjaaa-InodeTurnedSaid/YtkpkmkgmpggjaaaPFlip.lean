/- Bytes with no bit turned are the bytes. -/
import Derived.Test.YtkpkmkgmpggjaaaUx3
import Derived.Test.YtkpkmkgmpggjaaaPCrc2
import Derived.Test.YtkpkmkgmpggjaaaXCrc3
namespace Go.Proofs.Ytkpkmkgmpggjaaa.Pure
open Go Go.RowKit Go.Proofs.Ytkpkmkgmpggjaaa.U Go.Proofs.YtkpkmkgmpggjaaaW.PrintWords Go.Proofs.YtkpkmkgmpggjaaaW.PrintLast Go.Proofs.YtkpkmkgmpggjaaaW.PrintMore
set_option linter.unusedVariables false
set_option linter.unusedSimpArgs false
theorem flipTo_same (n8 first burst : Nat) (l : List Int) (j : Nat) (h : X.flipped n8 first burst j = false) : X.flipTo n8 first burst l j = l := by
  induction j with
  | zero => rfl
  | succ j ih =>
    simp only [X.flipped, Bool.or_eq_false_iff] at h
    simp only [X.flipTo]
    rw [if_neg (by rw [h.1]; decide)]
    exact ih h.2
end Go.Proofs.Ytkpkmkgmpggjaaa.Pure
