/- CrcSums: the sum of any bytes, and the sum of bytes behind others, are what the document's bit by bit reckoning gives; no condition. -/
import Derived.Test.YtdailnkioldbnaaUx7
import Derived.Test.YtdailnkioldbnaaUx11
import Derived.Test.YtdailnkioldbnaaPCrc
namespace Go.Proofs.Ytdailnkioldbnaa.Pure
open Go Go.RowKit Go.Proofs.Ytdailnkioldbnaa.U Go.Proofs.YtdailnkioldbnaaW.PrintWords Go.Proofs.YtdailnkioldbnaaW.PrintLast Go.Proofs.YtdailnkioldbnaaW.PrintMore
theorem CrcSums : undercroftlaw01_CrcSums.Pure := by
  intro l0 a1 hmax hsz hwf hwf1
  unfold maxLen at hmax
  have hu := X.u8all_wf hwf
  refine ⟨l0.length + 10, ?_⟩
  unfold undercroftlaw01_CrcSums.f
  rw [show undercroftlaw01_alive.f = some true from rfl, Option.bind_some, if_pos rfl, Option.bind_some, if_pos (by simp; omega), Option.bind_some, List.nil_append, sum_f hu, Option.bind_some, refSum_f l0 _ hmax (by omega), Option.bind_some, if_pos rfl, more_f hu, Option.bind_some, refMore_f a1 l0 _ hmax (by omega), Option.bind_some, if_pos rfl]
  simp
end Go.Proofs.Ytdailnkioldbnaa.Pure
