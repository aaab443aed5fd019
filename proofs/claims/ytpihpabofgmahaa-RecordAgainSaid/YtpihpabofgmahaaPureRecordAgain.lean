/- RecordAgain: what is read out of blocks makes these very blocks again, at any bytes; no condition. -/
import Derived.Test.YtpihpabofgmahaaUx26
import Derived.Test.YtpihpabofgmahaaPRec3
namespace Go.Proofs.Ytpihpabofgmahaa.Pure
open Go Go.RowKit Go.Proofs.Ytpihpabofgmahaa.U Go.Proofs.YtpihpabofgmahaaW.PrintWords Go.Proofs.YtpihpabofgmahaaW.PrintLast Go.Proofs.YtpihpabofgmahaaW.PrintMore
set_option linter.unusedVariables false
set_option linter.unusedSimpArgs false
theorem RecordAgain : undercroftlaw03_RecordAgain.Pure := by
  intro l a hmax hsz hwf hwa
  have hu := X.u8all_wf hwf
  have hm : l.length ≤ 140737488355328 := by omega
  have hd := decode_f hu hm a
  unfold undercroftlaw03_RecordAgain.f
  rw [alive_true, Option.bind_some, if_pos rfl, hd, Option.bind_some]
  by_cases ho : (decOf l a).2.2.2.2 = true
  · obtain ⟨ws, rs, h1, h2, h3, h4, h5, h6, h7⟩ := decOf_ok ho
    obtain ⟨hc, -⟩ := may_facts h1
    have hwf2 := dec_wf hu (n := ws.length) (r := rs.length) h7
    rw [← h5, ← h6] at hwf2
    have he := encode_total a hwf2.1 hwf2.2 (by omega) (by omega)
    rw [if_pos h1] at he
    have hl := encL_length (seq := a) h1
    rw [if_pos ho, h2]
    show (record_Encode.f a ws rs).bind _ = _
    rw [he, Option.bind_some, if_pos rfl, if_pos rfl]
    show (if ((encL a ws rs).length : Int) = wrap64 (256 * ((ws.length + 2 : Nat) : Int)) then _ else _) = _
    rw [hl, wrap64_id (by omega) (by omega), if_pos (by omega), if_pos (by omega), if_pos (by omega), Int.toNat_natCast, h4]
    simp
  · have ho' : (decOf l a).2.2.2.2 = false := Bool.eq_false_iff.2 ho
    rw [decOf_no ho']
    rfl
end Go.Proofs.Ytpihpabofgmahaa.Pure
