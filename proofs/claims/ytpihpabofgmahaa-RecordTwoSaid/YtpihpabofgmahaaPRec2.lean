/- What Decode comes to; the document's answer is the program's. -/
import Derived.Test.YtpihpabofgmahaaUx4
import Derived.Test.YtpihpabofgmahaaUx11
import Derived.Test.YtpihpabofgmahaaUx12
import Derived.Test.YtpihpabofgmahaaUx19
import Derived.Test.YtpihpabofgmahaaUx20
import Derived.Test.YtpihpabofgmahaaUx24
import Derived.Test.YtpihpabofgmahaaPRec
import Derived.Test.YtpihpabofgmahaaPCrc2
namespace Go.Proofs.Ytpihpabofgmahaa.Pure
open Go Go.RowKit Go.Proofs.Ytpihpabofgmahaa.U Go.Proofs.YtpihpabofgmahaaW.PrintWords Go.Proofs.YtpihpabofgmahaaW.PrintLast Go.Proofs.YtpihpabofgmahaaW.PrintMore
set_option linter.unusedVariables false
set_option linter.unusedSimpArgs false
theorem alive_true : undercroftlaw03_alive.f = some true := by decide +kernel
theorem sameInts_l0 (l : List Int) (hm : l.length ≤ 9223372036854775807) : ∀ (d i k : Nat), i + d = l.length → d < k → undercroftref03_SameInts.l0 k l l (i : Int) = some true
  | 0, i, k, hi, hk => by
    obtain ⟨k, rfl⟩ : ∃ m, k = m + 1 := ⟨k - 1, by omega⟩
    rw [undercroftref03_SameInts.l0, if_neg (by omega)]
  | d + 1, i, k, hi, hk => by
    obtain ⟨k, rfl⟩ : ∃ m, k = m + 1 := ⟨k - 1, by omega⟩
    have hw : wrap64 ((i : Int) + 1) = ((i + 1 : Nat) : Int) := by rw [wrap64_id (by omega) (by omega)]; omega
    rw [undercroftref03_SameInts.l0, if_pos (by omega), if_pos (by omega), if_pos (by omega), if_pos rfl, hw]
    exact sameInts_l0 l hm d (i + 1) k (by omega) (by omega)
theorem sameInts_self (l : List Int) (hm : l.length ≤ 9223372036854775807) (k : Nat) (hk : l.length < k) : undercroftref03_SameInts.f k l l = some true := by
  unfold undercroftref03_SameInts.f
  rw [if_pos rfl]
  exact sameInts_l0 l hm l.length 0 k (by omega) hk
theorem same_l0 (a b : Int) (ws : List S43) (rs qs : List Int) (hm : ws.length ≤ 9223372036854775807) : ∀ (d i k : Nat), i + d = ws.length → d < k → undercroftref03_Same.l0 k (i : Int) a ws rs b ws qs = some true
  | 0, i, k, hi, hk => by
    obtain ⟨k, rfl⟩ : ∃ m, k = m + 1 := ⟨k - 1, by omega⟩
    rw [undercroftref03_Same.l0, if_neg (by omega)]
  | d + 1, i, k, hi, hk => by
    obtain ⟨k, rfl⟩ : ∃ m, k = m + 1 := ⟨k - 1, by omega⟩
    have hw : wrap64 ((i : Int) + 1) = ((i + 1 : Nat) : Int) := by rw [wrap64_id (by omega) (by omega)]; omega
    rw [undercroftref03_Same.l0, if_pos (by omega), if_pos (by omega), if_pos (by omega), if_pos rfl, if_pos rfl, hw]
    exact same_l0 a b ws rs qs hm d (i + 1) k (by omega) (by omega)
theorem same_self (a : Int) (ws : List S43) (rs : List Int) (hw : ws.length ≤ 9223372036854775807) (hr : rs.length ≤ 9223372036854775807) (k : Nat) (hk : ws.length + rs.length + 1 < k) : undercroftref03_Same.f k a ws rs a ws rs = some true := by
  obtain ⟨k, rfl⟩ : ∃ m, k = m + 1 := ⟨k - 1, by omega⟩
  unfold undercroftref03_Same.f
  rw [if_pos rfl, if_pos rfl, sameInts_self rs hr (k + 1) (by omega), Option.bind_some, undercroftref03_Same.j0, if_neg (by decide)]
  exact same_l0 a a ws rs rs hw ws.length 0 k (by omega) (by omega)
theorem prefix_f (l m : List Int) : bytes_HasPrefix.f l m = some (if m.length ≤ l.length then (strOfNums (l.take m.length)).toList == (strOfNums m).toList else false) := by
  unfold bytes_HasPrefix.f
  by_cases h : m.length ≤ l.length
  · rw [if_pos (by omega), if_pos (by omega), if_pos (by omega), if_pos h, Int.toNat_natCast]
    rfl
  · rw [if_neg (by omega), if_neg h]
/-- What is read out of blocks may be told: its numbers are whole numbers of 32 bits, its data are bytes. -/
theorem dec_wf {l : List Int} (hu : X.u8all l = true) {n r : Nat} (h : 20 + 4 * (n + r) ≤ l.length) : wfSlots (decWs l n) (decRs l n r) = true ∧ wfData (decWs l n) = true := by
  have hin : ∀ x : Int, 0 ≤ x → x < 4294967296 → (Lit.int .i64 x).wf = true := by
    intro x h0 h1
    simp [Lit.wf, IntKind.min, IntKind.max, IntKind.bits, IntKind.signed]
    omega
  constructor
  · refine List.all_eq_true.2 (fun b hb => ?_)
    unfold slots3 at hb
    rcases List.mem_append.1 hb with hb | hb
    · obtain ⟨x, hx, rfl⟩ := List.mem_map.1 hb
      obtain ⟨i, hi, rfl⟩ := List.mem_map.1 hx
      have hi' := List.mem_range.1 hi
      have := wordL_lt hu (i := i) (by omega)
      unfold decW
      split
      · exact hin _ (by show (0 : Int) ≤ (wordL l i : Int) - 2147483648; omega) (by show (wordL l i : Int) - 2147483648 < 4294967296; omega)
      · exact hin _ (by show (0 : Int) ≤ (wordL l i : Int); omega) (by show (wordL l i : Int) < 4294967296; omega)
    · obtain ⟨i, hi, rfl⟩ := List.mem_map.1 hb
      have hi' := List.mem_range.1 hi
      have := wordL_lt hu (i := n + i) (by omega)
      exact hin _ (by omega) (by omega)
  · refine List.all_eq_true.2 (fun x hx => ?_)
    obtain ⟨i, hi, rfl⟩ := List.mem_map.1 hx
    unfold decW
    split
    · exact X.u8all_append.2 ⟨by decide, X.u8all_drop (cutL_u8 hu _ _) 4⟩
    · exact cutL_u8 hu _ _
theorem encode_total (seq : Int) {ws : List S43} {rs : List Int} (hw : wfSlots ws rs = true) (hd : wfData ws = true) (h1 : ws.length ≤ 9007199254740992) (h2 : rs.length ≤ 9007199254740992) : record_Encode.f seq ws rs = some (if mayB ws rs = true then (encL seq ws rs, 0) else ([], 17)) := by
  unfold record_Encode.f record_may.f
  rw [if_pos ⟨hw, h1, h2⟩, Option.bind_some]
  by_cases hm : mayB ws rs = true
  · rw [if_pos hm, if_pos hd, if_pos hm]
  · rw [if_neg hm, if_neg hm]
theorem desc_le {seq : Int} {ws : List S43} {rs : List Int} (h : ws.length + rs.length ≤ 58) : (descL seq ws rs).length ≤ 252 := by
  unfold descL
  rw [List.length_append, List.length_append, startL_length, slotsL_length, revsL_length]
  omega
theorem datas_length {ws : List S43} (h : ∀ x ∈ ws, x.f1.length = 256) : (datasL ws).length = 256 * ws.length := by
  unfold datasL
  induction ws with
  | nil => rfl
  | cons x l ih => rw [List.map_cons, List.flatten_cons, List.length_append, ih (fun y hy => h y (List.mem_cons_of_mem _ hy)), dataL_length (h x List.mem_cons_self), List.length_cons]; omega
theorem commit_length (seq : Int) (b : List Int) : (commitL seq b).length = 20 := by unfold commitL; rw [List.length_append, headL_length, pbN_length]
theorem encL_length {seq : Int} {ws : List S43} {rs : List Int} (h : mayB ws rs = true) : (encL seq ws rs).length = (ws.length + 2) * 256 := by
  obtain ⟨hc, h1, -⟩ := may_facts h
  unfold encL bodyL
  rw [List.length_append, List.length_append, sealL_length (desc_le hc.2), datas_length h1, sealL_length (by rw [commit_length]; decide)]
  omega
/-- What Decode tells of bytes. -/
def decOf (l : List Int) (a : Int) : Int × List S43 × List Int × Int × Bool :=
  if l.length < 512 then badT
  else if 58 < cntL l + rcntL l ∨ l.length < (cntL l + 2) * 256 then badT
  else if mayB (decWs l (cntL l)) (decRs l (cntL l) (rcntL l)) = true then
    (if l.take ((cntL l + 2) * 256) = encL a (decWs l (cntL l)) (decRs l (cntL l) (rcntL l)) then (a, decWs l (cntL l), decRs l (cntL l) (rcntL l), ((cntL l + 2 : Nat) : Int), true) else badT)
  else badT
theorem encL_u8 {seq : Int} {ws : List S43} {rs : List Int} (h : wfData ws = true) : X.u8all (encL seq ws rs) = true := by
  have h1 := bodyL_u8 (seq := seq) (rs := rs) h
  unfold encL
  exact X.u8all_append.2 ⟨h1, sealL_u8 (by unfold commitL; exact X.u8all_append.2 ⟨headL_u8 _ _, pbN_u8 _ _⟩)⟩
theorem decode_f {l : List Int} (hu : X.u8all l = true) (hm : l.length ≤ 140737488400000) (a : Int) : record_Decode.f l a = some (decOf l a) := by
  unfold record_Decode.f decOf
  rw [if_pos ⟨hu, hm⟩]
  by_cases h1 : l.length < 512
  · rw [if_pos h1, if_pos h1]
  rw [if_neg h1, if_neg h1]
  by_cases h2 : 58 < cntL l + rcntL l ∨ l.length < (cntL l + 2) * 256
  · rw [if_pos h2, if_pos h2]
  rw [if_neg h2, if_neg h2]
  have hw := dec_wf hu (n := cntL l) (r := rcntL l) (by omega)
  rw [encode_total a hw.1 hw.2 (by rw [decWs_length]; omega) (by rw [decRs_length]; omega), Option.bind_some]
  by_cases h3 : mayB (decWs l (cntL l)) (decRs l (cntL l) (rcntL l)) = true
  rotate_left
  · rw [if_neg h3, if_neg h3, if_neg (by decide)]
  have hl := encL_length (seq := a) h3
  rw [decWs_length] at hl
  rw [if_pos h3, if_pos h3, if_pos (show ((encL a (decWs l (cntL l)) (decRs l (cntL l) (rcntL l)), (0 : Int)) : List Int × Int).2 = 0 from rfl)]
  show (bytes_HasPrefix.f l (encL a (decWs l (cntL l)) (decRs l (cntL l) (rcntL l)))).bind _ = _
  rw [prefix_f, hl, if_pos (show (cntL l + 2) * 256 ≤ l.length by omega), Option.bind_some]
  by_cases h4 : l.take ((cntL l + 2) * 256) = encL a (decWs l (cntL l)) (decRs l (cntL l) (rcntL l))
  · have h5 : ((strOfNums (l.take ((cntL l + 2) * 256))).toList == (strOfNums (encL a (decWs l (cntL l)) (decRs l (cntL l) (rcntL l)))).toList) = true := by rw [beq_iff_eq, str_inj (X.u8all_take hu _) (encL_u8 hw.2)]; exact h4
    rw [if_pos h4, if_pos h5]
  · have h5 : ¬ ((strOfNums (l.take ((cntL l + 2) * 256))).toList == (strOfNums (encL a (decWs l (cntL l)) (decRs l (cntL l) (rcntL l)))).toList) = true := by rw [beq_iff_eq, str_inj (X.u8all_take hu _) (encL_u8 hw.2)]; exact h4
    rw [if_neg h4, if_neg h5]
theorem refDecode_f {l : List Int} (hu : X.u8all l = true) (hm : l.length ≤ 140737488355328) (a : Int) (k : Nat) (hk : 17200 < k) : undercroftref03_Decode.f k l a = some (decOf l a) := by
  unfold undercroftref03_Decode.f decOf
  rw [if_pos ⟨hu, hm, by omega⟩]
  by_cases h1 : l.length < 512
  · rw [if_pos h1]
    by_cases h0 : l.length < 256
    · rw [if_pos h0]
    · rw [if_neg h0, if_pos (Or.inr (by omega))]
  rw [if_neg h1, if_neg (by omega)]
  by_cases h2 : 58 < cntL l + rcntL l ∨ l.length < (cntL l + 2) * 256
  · rw [if_pos h2, if_pos h2]
  rw [if_neg h2, if_neg h2]
  have hw := dec_wf hu (n := cntL l) (r := rcntL l) (by omega)
  have he := encode_total a hw.1 hw.2 (by rw [decWs_length]; omega) (by rw [decRs_length]; omega)
  rw [refEncode_f a _ _ _ k hk he, Option.bind_some]
  by_cases h3 : mayB (decWs l (cntL l)) (decRs l (cntL l) (rcntL l)) = true
  rotate_left
  · rw [if_neg h3, if_neg h3, if_neg (by decide)]
  rw [if_pos h3, if_pos h3, if_pos (show ((encL a (decWs l (cntL l)) (decRs l (cntL l) (rcntL l)), (0 : Int)) : List Int × Int).2 = 0 from rfl)]
  by_cases h4 : l.take ((cntL l + 2) * 256) = encL a (decWs l (cntL l)) (decRs l (cntL l) (rcntL l))
  · have h5 : ((strOfNums (encL a (decWs l (cntL l)) (decRs l (cntL l) (rcntL l)))).toList == (strOfNums (l.take ((cntL l + 2) * 256))).toList) = true := by rw [beq_iff_eq, str_inj (encL_u8 hw.2) (X.u8all_take hu _)]; exact h4.symm
    rw [if_pos h4, if_pos h5]
  · have h5 : ¬ ((strOfNums (encL a (decWs l (cntL l)) (decRs l (cntL l) (rcntL l)))).toList == (strOfNums (l.take ((cntL l + 2) * 256))).toList) = true := by rw [beq_iff_eq, str_inj (encL_u8 hw.2) (X.u8all_take hu _)]; exact fun e => h4 e.symm
    rw [if_neg h4, if_neg h5]
theorem decOf_short (l : List Int) (a : Int) : (decOf l a).2.1.length ≤ 58 ∧ (decOf l a).2.2.1.length ≤ 58 := by
  unfold decOf
  split
  · exact ⟨Nat.zero_le _, Nat.zero_le _⟩
  split
  · exact ⟨Nat.zero_le _, Nat.zero_le _⟩
  rename_i h
  split
  · split
    · refine ⟨?_, ?_⟩
      · show (decWs l (cntL l)).length ≤ 58
        rw [decWs_length]; omega
      · show (decRs l (cntL l) (rcntL l)).length ≤ 58
        rw [decRs_length]; omega
    · exact ⟨Nat.zero_le _, Nat.zero_le _⟩
  · exact ⟨Nat.zero_le _, Nat.zero_le _⟩
end Go.Proofs.Ytpihpabofgmahaa.Pure
