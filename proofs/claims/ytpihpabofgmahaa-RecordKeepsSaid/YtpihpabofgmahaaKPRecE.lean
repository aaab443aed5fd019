/- PRecE: what this claim uses. Laid by slim.py (ours). -/
import Derived.Test.YtpihpabofgmahaaKUx7
import Derived.Test.YtpihpabofgmahaaKUx18
import Derived.Test.YtpihpabofgmahaaKUx19
import Derived.Test.YtpihpabofgmahaaKUx20
import Derived.Test.YtpihpabofgmahaaKPCrc
import Derived.Test.YtpihpabofgmahaaKPRec
import Derived.Test.YtpihpabofgmahaaKPCrc2
namespace Go.Proofs.Ytpihpabofgmahaa.Pure
open Go Go.RowKit Go.Proofs.Ytpihpabofgmahaa.U Go.Proofs.YtpihpabofgmahaaW.PrintWords Go.Proofs.YtpihpabofgmahaaW.PrintLast Go.Proofs.YtpihpabofgmahaaW.PrintMore
set_option linter.unusedVariables false
set_option linter.unusedSimpArgs false
theorem encode_total (seq : Int) {ws : List S43} {rs : List Int} (hw : wfSlots ws rs = true) (hd : wfData ws = true) (h1 : ws.length ≤ 9007199254740992) (h2 : rs.length ≤ 9007199254740992) : record_Encode.f seq ws rs = some (if mayB ws rs = true then (encL seq ws rs, 0) else ([], 17)) := by
  unfold record_Encode.f record_may.f
  rw [if_pos ⟨hw, h1, h2⟩, Option.bind_some]
  by_cases hm : mayB ws rs = true
  · rw [if_pos hm, if_pos hd, if_pos hm]
  · rw [if_neg hm, if_neg hm]
theorem desc_le {seq : Int} {ws : List S43} {rs : List Int} (h : ws.length + rs.length ≤ 58) : (descL seq ws rs).length ≤ 252 := by
  unfold descL
  rw [List.length_append, List.length_append, startL_length, slotsL_length, revsL_length]
  omega
theorem datas_length {ws : List S43} (h : ∀ x ∈ ws, x.f1.length = 256) : (datasL ws).length = 256 * ws.length := by
  unfold datasL
  induction ws with
  | nil => rfl
  | cons x l ih => rw [List.map_cons, List.flatten_cons, List.length_append, ih (fun y hy => h y (List.mem_cons_of_mem _ hy)), dataL_length (h x List.mem_cons_self), List.length_cons]; omega
theorem commit_length (seq : Int) (b : List Int) : (commitL seq b).length = 20 := by unfold commitL; rw [List.length_append, headL_length, pbN_length]
theorem encL_length {seq : Int} {ws : List S43} {rs : List Int} (h : mayB ws rs = true) : (encL seq ws rs).length = (ws.length + 2) * 256 := by
  obtain ⟨hc, h1, -⟩ := may_facts h
  unfold encL bodyL
  rw [List.length_append, List.length_append, sealL_length (desc_le hc.2), datas_length h1, sealL_length (by rw [commit_length]; decide)]
  omega
theorem encL_u8 {seq : Int} {ws : List S43} {rs : List Int} (h : wfData ws = true) : X.u8all (encL seq ws rs) = true := by
  have h1 := bodyL_u8 (seq := seq) (rs := rs) h
  unfold encL
  exact X.u8all_append.2 ⟨h1, sealL_u8 (by unfold commitL; exact X.u8all_append.2 ⟨headL_u8 _ _, pbN_u8 _ _⟩)⟩
theorem s43_eq {x y : S43} : x = y ↔ x.f0 = y.f0 ∧ x.f1 = y.f1 := by
  obtain ⟨a, b⟩ := x
  obtain ⟨c, d⟩ := y
  simp
instance : DecidableEq S43 := fun x y => if h : x.f0 = y.f0 ∧ x.f1 = y.f1 then isTrue (s43_eq.2 h) else isFalse (fun e => h (s43_eq.1 e))
theorem sameInts_g0 (l m : List Int) (hl : l.length = m.length) (hm : l.length ≤ 9223372036854775807) : ∀ (d i k : Nat), i + d = l.length → d < k → undercroftref03_SameInts.l0 k l m (i : Int) = some (decide (l.drop i = m.drop i))
  | 0, i, k, hi, hk => by
    obtain ⟨k, rfl⟩ : ∃ m, k = m + 1 := ⟨k - 1, by omega⟩
    rw [undercroftref03_SameInts.l0, if_neg (by omega), List.drop_eq_nil_of_le (by omega), List.drop_eq_nil_of_le (by omega)]
    rfl
  | d + 1, i, k, hi, hk => by
    obtain ⟨k, rfl⟩ : ∃ m, k = m + 1 := ⟨k - 1, by omega⟩
    have hw : wrap64 ((i : Int) + 1) = ((i + 1 : Nat) : Int) := by rw [wrap64_id (by omega) (by omega)]; omega
    have ih := sameInts_g0 l m hl hm d (i + 1) k (by omega) (by omega)
    rw [undercroftref03_SameInts.l0, if_pos (by omega), if_pos (by omega), if_pos (by omega), hw, ih]
    have r1 : rd l (i : Int) = l[i]'(by omega) := by unfold rd; rw [Int.toNat_natCast, List.getD_eq_getElem?_getD, List.getElem?_eq_getElem (by omega)]; rfl
    have r2 : rd m (i : Int) = m[i]'(by omega) := by unfold rd; rw [Int.toNat_natCast, List.getD_eq_getElem?_getD, List.getElem?_eq_getElem (by omega)]; rfl
    rw [r1, r2, List.drop_eq_getElem_cons (l := l) (i := i) (by omega), List.drop_eq_getElem_cons (l := m) (i := i) (by omega)]
    by_cases he : l[i]'(by omega) = m[i]'(by omega)
    · rw [if_pos he, he]
      simp only [List.cons.injEq, true_and]
    · rw [if_neg he]
      simp only [List.cons.injEq, he, false_and, decide_false]
theorem sameInts_g (l m : List Int) (hm : l.length ≤ 9223372036854775807) (hm2 : m.length ≤ 9223372036854775807) (k : Nat) (hk : l.length < k) : undercroftref03_SameInts.f k l m = some (decide (l = m)) := by
  unfold undercroftref03_SameInts.f
  by_cases hl : l.length = m.length
  · rw [if_pos (by omega)]
    exact sameInts_g0 l m hl hm l.length 0 k (by omega) hk
  · rw [if_neg (by omega)]
    have : ¬ l = m := fun e => hl (by rw [e])
    simp [this]
theorem same_g0 (a b : Int) (ws us : List S43) (rs qs : List Int) (hl : ws.length = us.length) (hm : ws.length ≤ 9223372036854775807) (hw1 : wfData ws = true) (hw2 : wfData us = true) : ∀ (d i k : Nat), i + d = ws.length → d < k → undercroftref03_Same.l0 k (i : Int) a ws rs b us qs = some (decide (ws.drop i = us.drop i))
  | 0, i, k, hi, hk => by
    obtain ⟨k, rfl⟩ : ∃ m, k = m + 1 := ⟨k - 1, by omega⟩
    rw [undercroftref03_Same.l0, if_neg (by omega), List.drop_eq_nil_of_le (by omega), List.drop_eq_nil_of_le (by omega)]
    rfl
  | d + 1, i, k, hi, hk => by
    obtain ⟨k, rfl⟩ : ∃ m, k = m + 1 := ⟨k - 1, by omega⟩
    have hw : wrap64 ((i : Int) + 1) = ((i + 1 : Nat) : Int) := by rw [wrap64_id (by omega) (by omega)]; omega
    have ih := same_g0 a b ws us rs qs hl hm hw1 hw2 d (i + 1) k (by omega) (by omega)
    rw [undercroftref03_Same.l0, if_pos (by omega), if_pos (by omega), if_pos (by omega), hw, ih]
    have r1 : rd_T43 ws (i : Int) = ws[i]'(by omega) := by unfold rd_T43; rw [Int.toNat_natCast, List.getD_eq_getElem?_getD, List.getElem?_eq_getElem (by omega)]; rfl
    have r2 : rd_T43 us (i : Int) = us[i]'(by omega) := by unfold rd_T43; rw [Int.toNat_natCast, List.getD_eq_getElem?_getD, List.getElem?_eq_getElem (by omega)]; rfl
    have u1 := List.all_eq_true.1 hw1 _ (List.getElem_mem (show i < ws.length by omega))
    have u2 := List.all_eq_true.1 hw2 _ (List.getElem_mem (show i < us.length by omega))
    rw [r1, r2, List.drop_eq_getElem_cons (l := ws) (i := i) (by omega), List.drop_eq_getElem_cons (l := us) (i := i) (by omega)]
    by_cases he : (ws[i]'(by omega)).f0 = (us[i]'(by omega)).f0
    · rw [if_pos he]
      by_cases hs : (ws[i]'(by omega)).f1 = (us[i]'(by omega)).f1
      · rw [if_pos (by rw [hs]), s43_eq.2 ⟨he, hs⟩]
        simp only [List.cons.injEq, true_and]
      · rw [if_neg (fun e => hs ((str_inj u1 u2).1 e))]
        simp only [List.cons.injEq, s43_eq, hs, and_false, false_and, decide_false]
    · rw [if_neg he]
      simp only [List.cons.injEq, s43_eq, he, false_and, decide_false]
theorem same_g (a b : Int) (ws us : List S43) (rs qs : List Int) (h1 : ws.length ≤ 9223372036854775807) (h2 : us.length ≤ 9223372036854775807) (h3 : rs.length ≤ 9223372036854775807) (h4 : qs.length ≤ 9223372036854775807) (hw1 : wfData ws = true) (hw2 : wfData us = true) (k : Nat) (hk : ws.length + rs.length + 1 < k) : undercroftref03_Same.f k a ws rs b us qs = some (decide (a = b ∧ ws = us ∧ rs = qs)) := by
  obtain ⟨k, rfl⟩ : ∃ m, k = m + 1 := ⟨k - 1, by omega⟩
  unfold undercroftref03_Same.f
  by_cases e1 : a = b
  rotate_left
  · rw [if_neg e1]
    simp [e1, undercroftref03_Same.j0]
  rw [if_pos e1]
  by_cases e2 : ws.length = us.length
  rotate_left
  · rw [if_neg (by omega)]
    have : ¬ ws = us := fun e => e2 (by rw [e])
    simp [this, undercroftref03_Same.j0]
  rw [if_pos (by omega), sameInts_g rs qs h3 h4 (k + 1) (by omega), Option.bind_some]
  by_cases e3 : rs = qs
  rotate_left
  · simp [e3, undercroftref03_Same.j0]
  rw [undercroftref03_Same.j0]
  simp only [e3, e1, decide_true, Bool.not_true, Bool.false_eq_true, if_false, true_and, and_true]
  have := same_g0 b b ws us qs qs e2 h1 hw1 hw2 ws.length 0 k (by omega) (by omega)
  simpa using this
structure Came (a : Int) (ws : List S43) (rs : List Int) : Prop where
  seq : 0 ≤ a ∧ a < 18446744073709551616
  slots : wfSlots ws rs = true
  data : wfData ws = true
  lw : ws.length ≤ 4398046510976
  lr : rs.length ≤ 17592186043904
  ld : ∀ x ∈ ws, x.f1.length ≤ 140737488351232
theorem came {a : Int} {ws : List S43} {rs : List Int} (w0 : (Lit.int .u64 a).wf = true) (hw : ∀ x ∈ ws, (Lit.int .i64 x.f0).wf = true ∧ (∀ c ∈ x.f1, (Lit.int .u8 c).wf = true) ∧ x.f1.length * 1 ≤ 140737488351232) (y1 : ws.length * 32 ≤ 140737488351232) (hr : ∀ x ∈ rs, (Lit.int .i64 x).wf = true) (y2 : rs.length * 8 ≤ 140737488351232) : Came a ws rs := by
  refine ⟨?_, ?_, ?_, by omega, by omega, fun x hx => by have := (hw x hx).2.2; omega⟩
  · simp [Lit.wf, IntKind.max, IntKind.min, IntKind.bits, IntKind.signed] at w0
    omega
  · refine List.all_eq_true.2 (fun b hb => ?_)
    unfold slots3 at hb
    rcases List.mem_append.1 hb with hb | hb
    · obtain ⟨x, hx, rfl⟩ := List.mem_map.1 hb
      exact (hw x hx).1
    · exact hr b hb
  · exact List.all_eq_true.2 (fun x hx => X.u8all_wf (hw x hx).2.1)
theorem Came.enc {a : Int} {ws : List S43} {rs : List Int} (h : Came a ws rs) : record_Encode.f a ws rs = some (if mayB ws rs = true then (encL a ws rs, 0) else ([], 17)) := encode_total a h.slots h.data (by have := h.lw; omega) (by have := h.lr; omega)
theorem encL_le {a : Int} {ws : List S43} {rs : List Int} (h : mayB ws rs = true) : (encL a ws rs).length ≤ 15360 := by
  obtain ⟨hc, -⟩ := may_facts h
  rw [encL_length h]
  omega
def recB (a : Int) (ws : List S43) (rs : List Int) : Bool := decide (0 ≤ a ∧ a < 18446744073709551616) && (wfSlots ws rs && (wfData ws && (decide (ws.length ≤ 4398046510976) && (decide (rs.length ≤ 17592186043904) && ws.all fun x => decide (x.f1.length ≤ 140737488351232)))))
theorem recB_iff {a : Int} {ws : List S43} {rs : List Int} : recB a ws rs = true ↔ Came a ws rs := by
  unfold recB
  simp only [Bool.and_eq_true, decide_eq_true_eq, List.all_eq_true]
  exact ⟨fun ⟨h1, h2, h3, h4, h5, h6⟩ => ⟨h1, h2, h3, h4, h5, h6⟩, fun h => ⟨h.seq, h.slots, h.data, h.lw, h.lr, h.ld⟩⟩
end Go.Proofs.Ytpihpabofgmahaa.Pure
