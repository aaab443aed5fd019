/- RecordBack: a record's blocks are read again, whatever stands behind, and not with another number or cut short; no condition. -/
import Derived.Test.YtpihpabofgmahaaUx25
import Derived.Test.YtpihpabofgmahaaPRec3
namespace Go.Proofs.Ytpihpabofgmahaa.Pure
open Go Go.RowKit Go.Proofs.Ytpihpabofgmahaa.U Go.Proofs.YtpihpabofgmahaaW.PrintWords Go.Proofs.YtpihpabofgmahaaW.PrintLast Go.Proofs.YtpihpabofgmahaaW.PrintMore
set_option linter.unusedVariables false
set_option linter.unusedSimpArgs false
theorem RecordBack (a : Int) (ws : List S43) (rs : List Int) (l : List Int) (w0 : (Lit.int .u64 a).wf = true) (hw : ∀ x ∈ ws, (Lit.int .i64 x.f0).wf = true ∧ (∀ c ∈ x.f1, (Lit.int .u8 c).wf = true) ∧ x.f1.length * 1 ≤ 140737488351232) (y1 : ws.length * 32 ≤ 140737488351232) (hr : ∀ x ∈ rs, (Lit.int .i64 x).wf = true) (y2 : rs.length * 8 ≤ 140737488351232)
    (hl : ∀ x ∈ l, (Lit.int .u8 x).wf = true) (y3 : l.length * 1 ≤ 140737488351232) : ∃ k, undercroftlaw03_RecordBack.f k a ws rs l = some true := by
  have h := came w0 hw y1 hr y2
  refine ⟨ws.length + rs.length + 10, ?_⟩
  unfold undercroftlaw03_RecordBack.f
  rw [alive_true, Option.bind_some, if_pos rfl, h.enc, Option.bind_some]
  by_cases hm : mayB ws rs = true
  rotate_left
  · rw [if_neg hm, if_neg (by decide)]
    rfl
  have hlu := X.u8all_wf hl
  have u1 := encL_u8 (seq := a) (rs := rs) h.data
  have n1 := encL_length (seq := a) hm
  have l1 := encL_le (a := a) hm
  obtain ⟨c1, -⟩ := may_facts hm
  have hb : 0 ≤ IntKind.u64.wrap (a + 1) ∧ IntKind.u64.wrap (a + 1) < 18446744073709551616 := by rw [u64_wrap]; omega
  have hne : a ≠ IntKind.u64.wrap (a + 1) := by have := h.seq; rw [u64_wrap]; omega
  have d1 := dec_enc (a := a) hm h.data l
  have d2 := dec_other (z := l) h.seq hb hne hm h.data
  have d3 := dec_short (a := a) (b := a) hm l (((ws.length + 2) * 256) - 1) (by omega)
  rw [if_pos hm, if_pos rfl]
  have hall : X.u8all (encL a ws rs ++ l) = true := X.u8all_append.2 ⟨u1, hlu⟩
  have e1 : wrap64 (((encL a ws rs).length : Int) - 1) = (((ws.length + 2) * 256 - 1 : Nat) : Int) := by rw [wrap64_id (by omega) (by omega), n1]; omega
  have e2 : ((ws.length + 2 : Nat) : Int) = wrap64 ((ws.length : Int) + 2) := by rw [wrap64_id (by omega) (by omega)]; omega
  have e3 : wrap64 (256 * ((ws.length + 2 : Nat) : Int)) = ((encL a ws rs).length : Int) := by rw [wrap64_id (by omega) (by omega), n1]; omega
  have hall_len : (encL a ws rs ++ l).length ≤ 140737488366592 := by rw [List.length_append]; omega
  have hcut : (ws.length + 2) * 256 - 1 ≤ (encL a ws rs ++ l).length := by rw [List.length_append]; omega
  have hlt1 : (encL a ws rs).length < 140737488355328 := by omega
  have hlt2 : (encL a ws rs).length + l.length < 140737488400000 := by omega
  dsimp only
  generalize encL a ws rs = b at *
  rw [Option.bind_some, if_pos (by rw [List.length_nil]; omega), Option.bind_some, List.nil_append, if_pos hlt2, Option.bind_some, decode_f hall (by omega) a, Option.bind_some, decode_f hall (by omega) _, Option.bind_some, e1, if_pos (by omega), if_pos (by omega), Int.toNat_natCast, decode_f (X.u8all_take hall _) (by rw [List.length_take]; omega) a, Option.bind_some, d1, d2, d3, if_pos rfl]
  show (if ((ws.length + 2 : Nat) : Int) = wrap64 ((ws.length : Int) + 2) then (if wrap64 (256 * ((ws.length + 2 : Nat) : Int)) = (b.length : Int) then ((undercroftref03_Same.f _ a ws rs a ws rs).bind _) else _) else _) = _
  rw [if_pos e2, if_pos e3, same_self a ws rs (by have := h.lw; omega) (by have := h.lr; omega) _ (by omega), Option.bind_some, if_pos rfl]
  rfl
end Go.Proofs.Ytpihpabofgmahaa.Pure
