/- RecordEncodes: the blocks of a record are what the document says, at every record; no condition. -/
import Derived.Test.YtpihpabofgmahaaUx21
import Derived.Test.YtpihpabofgmahaaPRec3
namespace Go.Proofs.Ytpihpabofgmahaa.Pure
open Go Go.RowKit Go.Proofs.Ytpihpabofgmahaa.U Go.Proofs.YtpihpabofgmahaaW.PrintWords Go.Proofs.YtpihpabofgmahaaW.PrintLast Go.Proofs.YtpihpabofgmahaaW.PrintMore
set_option linter.unusedVariables false
set_option linter.unusedSimpArgs false
theorem RecordEncodes (a : Int) (ws : List S43) (rs : List Int) (w0 : (Lit.int .u64 a).wf = true) (hw : ∀ x ∈ ws, (Lit.int .i64 x.f0).wf = true ∧ (∀ c ∈ x.f1, (Lit.int .u8 c).wf = true) ∧ x.f1.length * 1 ≤ 140737488351232) (y1 : ws.length * 32 ≤ 140737488351232) (hr : ∀ x ∈ rs, (Lit.int .i64 x).wf = true) (y2 : rs.length * 8 ≤ 140737488351232) :
    ∃ k, undercroftlaw03_RecordEncodes.f k a ws rs = some true := by
  have hc := came w0 hw y1 hr y2
  refine ⟨ws.length + rs.length + 17300, ?_⟩
  have he := hc.enc
  have hf := refEncode_f a ws rs _ (ws.length + rs.length + 17300) (by omega) he
  unfold undercroftlaw03_RecordEncodes.f
  rw [alive_true, Option.bind_some, if_pos rfl, copy_f a ws rs hc.lw hc.lr hc.ld _ (by omega), Option.bind_some]
  show (record_Encode.f a ws rs).bind _ = _
  rw [he, Option.bind_some, hf, Option.bind_some, if_pos rfl, if_pos rfl]
  show (undercroftref03_Same.f _ a ws rs a ws rs).bind _ = _
  rw [same_self a ws rs (by have := hc.lw; omega) (by have := hc.lr; omega) _ (by omega)]
  rfl
end Go.Proofs.Ytpihpabofgmahaa.Pure
