/- RecordDecodes: a record is read out of any bytes, or refused, as the document says; no condition. -/
import Derived.Test.YtpihpabofgmahaaUx24
import Derived.Test.YtpihpabofgmahaaPRec2
namespace Go.Proofs.Ytpihpabofgmahaa.Pure
open Go Go.RowKit Go.Proofs.Ytpihpabofgmahaa.U Go.Proofs.YtpihpabofgmahaaW.PrintWords Go.Proofs.YtpihpabofgmahaaW.PrintLast Go.Proofs.YtpihpabofgmahaaW.PrintMore
set_option linter.unusedVariables false
set_option linter.unusedSimpArgs false
theorem RecordDecodes : undercroftlaw03_RecordDecodes.Pure := by
  intro l0 a1 hmax hsz hwf _
  have hu := X.u8all_wf hwf
  have hm : l0.length ≤ 140737488355328 := by omega
  refine ⟨17300, ?_⟩
  have hs := decOf_short l0 a1
  have hd := decode_f hu hm a1
  have hr := refDecode_f hu hm a1 17300 (by decide)
  generalize decOf l0 a1 = p at *
  obtain ⟨p1, p2, p3, p4, p5⟩ := p
  unfold undercroftlaw03_RecordDecodes.f
  rw [alive_true, Option.bind_some, if_pos rfl, Option.bind_some, if_pos (by simp; omega), Option.bind_some, List.nil_append, hd, Option.bind_some, hr, Option.bind_some]
  show (if (p5 == p5) = true then _ else _) = _
  rw [if_pos (by cases p5 <;> rfl)]
  show (if p4 = p4 then _ else _) = _
  rw [if_pos rfl]
  show (undercroftref03_Same.f 17300 p1 p2 p3 p1 p2 p3).bind _ = _
  have h1 : p2.length ≤ 58 := hs.1
  have h2 : p3.length ≤ 58 := hs.2
  rw [same_self p1 p2 p3 (by omega) (by omega) 17300 (by omega), Option.bind_some, if_pos rfl]
  simp
end Go.Proofs.Ytpihpabofgmahaa.Pure
