/- CrcNumbers: numbers become bytes, and bytes numbers, as the document says, at any number, any count and any bytes; no condition. -/
import Derived.Test.YtdailnkioldbnaaUx7
import Derived.Test.YtdailnkioldbnaaUx13
import Derived.Test.YtdailnkioldbnaaUx15
import Derived.Test.YtdailnkioldbnaaPCrc
namespace Go.Proofs.Ytdailnkioldbnaa.Pure
open Go Go.RowKit Go.Proofs.Ytdailnkioldbnaa.U Go.Proofs.YtdailnkioldbnaaW.PrintWords Go.Proofs.YtdailnkioldbnaaW.PrintLast Go.Proofs.YtdailnkioldbnaaW.PrintMore
theorem CrcNumbers : undercroftlaw01_CrcNumbers.Pure := by
  intro a0 a1 l2 hwf0 hwf1 hmax hsz hwf
  have hu := X.u8all_wf hwf
  refine ⟨9, ?_⟩
  unfold undercroftlaw01_CrcNumbers.f
  rw [show undercroftlaw01_alive.f = some true from rfl, Option.bind_some, if_pos rfl, Option.bind_some, if_pos (by simp; omega), List.nil_append, number_f l2 hu 9 (by omega), Option.bind_some, refNumber_f l2 hu 9 (by omega), Option.bind_some, bytes_f a0 a1 9 (by omega), Option.bind_some, refBytes_f a0 a1 9 (by omega), Option.bind_some]
  unfold undercroftref01_Same.f
  simp
end Go.Proofs.Ytdailnkioldbnaa.Pure
