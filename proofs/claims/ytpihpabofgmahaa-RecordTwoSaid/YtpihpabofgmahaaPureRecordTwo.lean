/- RecordTwo: two records one behind the other are read one by one, and unlike records have unlike blocks; no condition. -/
import Derived.Test.YtpihpabofgmahaaUx30
import Derived.Test.YtpihpabofgmahaaPRec3
namespace Go.Proofs.Ytpihpabofgmahaa.Pure
open Go Go.RowKit Go.Proofs.Ytpihpabofgmahaa.U Go.Proofs.YtpihpabofgmahaaW.PrintWords Go.Proofs.YtpihpabofgmahaaW.PrintLast Go.Proofs.YtpihpabofgmahaaW.PrintMore
set_option linter.unusedVariables false
set_option linter.unusedSimpArgs false
theorem str_beq {l m : List Int} (hl : X.u8all l = true) (hm : X.u8all m = true) : ((strOfNums l).toList == (strOfNums m).toList) = decide (l = m) := by
  by_cases h : l = m
  · rw [h]
    simp
  · rw [beq_eq_false_iff_ne.mpr (fun e => h ((str_inj hl hm).1 e))]
    simp [h]
theorem two_ok {a b : Int} {ws us : List S43} {rs qs : List Int} (h : Came a ws rs) (g : Came b us qs) (hm : mayB ws rs = true) (gm : mayB us qs = true) (k : Nat) (hk : ws.length + rs.length + us.length + qs.length + 10 < k) :
    undercroftlaw03_RecordTwo.j0 k (encL a ws rs) (encL b us qs) false a ws rs b us qs = some true := by
  obtain ⟨k, rfl⟩ : ∃ m, k = m + 2 := ⟨k - 2, by omega⟩
  have l1 := encL_le (a := a) hm
  have l2 := encL_le (a := b) gm
  have u1 := encL_u8 (seq := a) (rs := rs) h.data
  have u2 := encL_u8 (seq := b) (rs := qs) g.data
  have n1 := encL_length (seq := a) hm
  have n2 := encL_length (seq := b) gm
  obtain ⟨c1, -⟩ := may_facts hm
  obtain ⟨c2, -⟩ := may_facts gm
  have d1 := dec_enc (a := a) hm h.data (encL b us qs)
  have d2 := dec_enc (a := b) gm g.data []
  rw [List.append_nil] at d2
  have hinj : encL a ws rs = encL b us qs ↔ a = b ∧ ws = us ∧ rs = qs := by
    constructor
    · intro e
      have e0 : a = b := enc_seq (ws := ws) (us := us) (rs := rs) (qs := qs) [] [] h.seq g.seq (by rw [e])
      subst e0
      have d3 := dec_enc (a := a) hm h.data []
      rw [List.append_nil, e, d2] at d3
      injection d3 with _ d3
      injection d3 with d4 d3
      injection d3 with d5 d3
      exact ⟨rfl, d4.symm, d5.symm⟩
    · rintro ⟨rfl, rfl, rfl⟩
      rfl
  have hs : ((strOfNums (encL a ws rs)).toList == (strOfNums (encL b us qs)).toList) = decide (a = b ∧ ws = us ∧ rs = qs) := by
    rw [str_beq u1 u2]
    exact decide_eq_decide.2 hinj
  generalize encL a ws rs = A at *
  generalize encL b us qs = B at *
  have e1 : wrap64 (256 * ((ws.length + 2 : Nat) : Int)) = (A.length : Int) := by rw [wrap64_id (by omega) (by omega)]; omega
  have e2 : wrap64 (256 * ((us.length + 2 : Nat) : Int)) = (B.length : Int) := by rw [wrap64_id (by omega) (by omega)]; omega
  rw [undercroftlaw03_RecordTwo.j0, if_neg (by decide), Option.bind_some, if_pos (by rw [List.length_nil]; omega), Option.bind_some, List.nil_append, if_pos (by omega), Option.bind_some, decode_f (X.u8all_append.2 ⟨u1, u2⟩) (by rw [List.length_append]; omega) a, Option.bind_some, d1, if_pos rfl]
  show undercroftlaw03_RecordTwo.j1 (k + 1) A B (A ++ B) ((ws.length + 2 : Nat) : Int) (wrap64 (256 * ((ws.length + 2 : Nat) : Int)) != (A.length : Int)) a ws rs b us qs a ws rs = some true
  rw [undercroftlaw03_RecordTwo.j1, e1, bne_self_eq_false, if_neg (by decide), if_pos (by omega), if_pos (by rw [List.length_append]; omega), Int.toNat_natCast, List.drop_left, decode_f u2 (by omega) b, Option.bind_some, d2]
  rw [same_self a ws rs (by have := h.lw; omega) (by have := h.lr; omega) k (by omega), Option.bind_some, if_pos rfl, if_pos rfl]
  show (if wrap64 (256 * ((us.length + 2 : Nat) : Int)) = (B.length : Int) then _ else _) = _
  rw [if_pos e2]
  show (undercroftref03_Same.f k b us qs b us qs).bind _ = _
  rw [same_self b us qs (by have := g.lw; omega) (by have := g.lr; omega) k (by omega), Option.bind_some, if_pos rfl]
  rw [same_g a b ws us rs qs (by omega) (by omega) (by omega) (by omega) h.data g.data k (by omega), Option.bind_some, hs]
  simp
theorem RecordTwo (a : Int) (ws : List S43) (rs : List Int) (b : Int) (us : List S43) (qs : List Int) (w0 : (Lit.int .u64 a).wf = true) (hw : ∀ x ∈ ws, (Lit.int .i64 x.f0).wf = true ∧ (∀ c ∈ x.f1, (Lit.int .u8 c).wf = true) ∧ x.f1.length * 1 ≤ 140737488351232) (y1 : ws.length * 32 ≤ 140737488351232) (hr : ∀ x ∈ rs, (Lit.int .i64 x).wf = true) (y2 : rs.length * 8 ≤ 140737488351232)
    (v0 : (Lit.int .u64 b).wf = true) (gw : ∀ x ∈ us, (Lit.int .i64 x.f0).wf = true ∧ (∀ c ∈ x.f1, (Lit.int .u8 c).wf = true) ∧ x.f1.length * 1 ≤ 140737488351232) (v1 : us.length * 32 ≤ 140737488351232) (gr : ∀ x ∈ qs, (Lit.int .i64 x).wf = true) (v2 : qs.length * 8 ≤ 140737488351232) : ∃ k, undercroftlaw03_RecordTwo.f k a ws rs b us qs = some true := by
  have h := came w0 hw y1 hr y2
  have g := came v0 gw v1 gr v2
  refine ⟨ws.length + rs.length + us.length + qs.length + 12, ?_⟩
  unfold undercroftlaw03_RecordTwo.f
  rw [alive_true, Option.bind_some, if_pos rfl, h.enc, Option.bind_some, g.enc, Option.bind_some]
  by_cases hm : mayB ws rs = true
  · rw [if_pos hm, if_pos rfl]
    by_cases gm : mayB us qs = true
    · rw [if_pos gm]
      exact two_ok h g hm gm _ (by omega)
    · rw [if_neg gm]
      show undercroftlaw03_RecordTwo.j0 (_ + 1) (encL a ws rs) [] true a ws rs b us qs = some true
      rw [undercroftlaw03_RecordTwo.j0, if_pos rfl]
  · rw [if_neg hm, if_neg (by decide)]
    show undercroftlaw03_RecordTwo.j0 (_ + 1) [] _ true a ws rs b us qs = some true
    rw [undercroftlaw03_RecordTwo.j0, if_pos rfl]
end Go.Proofs.Ytpihpabofgmahaa.Pure
