/- CrcBehind: the sum of two lists of bytes one behind the other is made out of the first one's sum, at any two lists of together at most 1048576 bytes (the '..Upto' form: longer lists may ask an append for more room than there is). -/
import Derived.Test.YtdailnkioldbnaaUx7
import Derived.Test.YtdailnkioldbnaaUx16
import Derived.Test.YtdailnkioldbnaaPCrc
namespace Go.Proofs.Ytdailnkioldbnaa.Pure
open Go Go.RowKit Go.Proofs.Ytdailnkioldbnaa.U Go.Proofs.YtdailnkioldbnaaW.PrintWords Go.Proofs.YtdailnkioldbnaaW.PrintLast Go.Proofs.YtdailnkioldbnaaW.PrintMore
theorem CrcBehindUpto : ∀ (l0 : List Int) (l1 : List Int), l0.length ≤ maxLen → l0.length * 1 ≤ 140737488351232 → (∀ x ∈ l0, (Lit.int .u8 x).wf = true) → l1.length ≤ maxLen → l1.length * 1 ≤ 140737488351232 → (∀ x ∈ l1, (Lit.int .u8 x).wf = true) → l0.length + l1.length ≤ 1048576 → undercroftlaw01_CrcBehind.f l0 l1 = some true := by
  intro l0 l1 hmax0 hsz0 hwf0 hmax1 hsz1 hwf1 hb
  have hu0 := X.u8all_wf hwf0
  have hu1 := X.u8all_wf hwf1
  have hu01 : X.u8all (l0 ++ l1) = true := X.u8all_append.2 ⟨hu0, hu1⟩
  unfold undercroftlaw01_CrcBehind.f
  rw [show undercroftlaw01_alive.f = some true from rfl, Option.bind_some, if_pos rfl, Option.bind_some, if_pos (by simp; omega), Option.bind_some, List.nil_append]
  rw [if_pos (by omega), sum_f hu0, Option.bind_some, more_f hu1, Option.bind_some, sum_f hu01, Option.bind_some, if_pos (X.crcMore_append 0 l0 l1), Option.bind_some, more_f (show X.u8all [] = true from rfl), Option.bind_some, Option.bind_some, X.crcMore_append, List.append_nil]
  simp
end Go.Proofs.Ytdailnkioldbnaa.Pure
