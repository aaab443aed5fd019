/- PRec: what this claim uses. Laid by slim.py (ours). -/
import Derived.Test.YtpihpabofgmahaaKUx7
import Derived.Test.YtpihpabofgmahaaKUx14
import Derived.Test.YtpihpabofgmahaaKUx15
import Derived.Test.YtpihpabofgmahaaKUx17
import Derived.Test.YtpihpabofgmahaaKUx18
import Derived.Test.YtpihpabofgmahaaKPCrc
namespace Go.Proofs.Ytpihpabofgmahaa.Pure
open Go Go.RowKit Go.Proofs.Ytpihpabofgmahaa.U Go.Proofs.YtpihpabofgmahaaW.PrintWords Go.Proofs.YtpihpabofgmahaaW.PrintLast Go.Proofs.YtpihpabofgmahaaW.PrintMore
set_option linter.unusedVariables false
set_option linter.unusedSimpArgs false
theorem bytes_pb (v : Int) (n : Nat) (hn : n ≤ 8) (k : Nat) (hk : 8 < k) : undercroftref01_Bytes.f k v (n : Int) = some (pbN v n) := by
  rw [refBytes_f v (n : Int) k hk]
  have : clamp8 (n : Int) = n := by unfold clamp8 mx mn; split <;> split <;> (try split) <;> omega
  rw [this]
  rfl
theorem refHead_f (kind seq : Int) (hkind : kind = 1 ∨ kind = 2) (k : Nat) (hk : 8 < k) : undercroftref03_head.f k kind seq = some (headL kind seq) := by
  unfold undercroftref03_head.f
  rw [Option.bind_some, show (8 : Int) = ((8 : Nat) : Int) from rfl, bytes_pb seq 8 (by decide) k hk, Option.bind_some, if_pos (by rw [pbN_length]; show 8 + 8 < _; decide)]
  unfold headL
  rcases hkind with rfl | rfl <;> rfl
theorem refSealed_l0 : ∀ (d : Nat) (x : List Int) (k : Nat), x.length + d = 252 → d + 262 < k → undercroftref03_sealed.l0 k x = some (sealL x)
  | 0, x, k, hx, hk => by
    obtain ⟨k, rfl⟩ : ∃ m, k = m + 1 := ⟨k - 1, by omega⟩
    have hf : fill252 x = x := by unfold fill252; rw [show 252 - x.length = 0 from by omega]; simp
    have hr := X.crcMore_range 0 x
    rw [undercroftref03_sealed.l0_q1, if_neg (by omega), refSum_f x k (by omega) (by omega), Option.bind_some, u64_wrap, Int.emod_eq_of_lt hr.1 (by omega), show (4 : Int) = ((4 : Nat) : Int) from rfl, bytes_pb _ 4 (by decide) k (by omega), Option.bind_some, if_pos (by rw [pbN_length]; omega)]
    unfold sealL
    rw [hf]
  | d + 1, x, k, hx, hk => by
    obtain ⟨k, rfl⟩ : ∃ m, k = m + 1 := ⟨k - 1, by omega⟩
    rw [undercroftref03_sealed.l0_q1, if_pos (by omega), if_pos (by omega), refSealed_l0 d (x ++ [0]) k (by rw [List.length_append, List.length_singleton]; omega) (by omega)]
    have : fill252 (x ++ [0]) = fill252 x := by
      unfold fill252
      rw [List.length_append, List.length_singleton, List.append_assoc, show 252 - x.length = (252 - (x.length + 1)) + 1 from by omega, List.replicate_succ]
      rfl
    unfold sealL
    rw [this]
theorem refSealed_f (x : List Int) (hx : x.length ≤ 252) (k : Nat) (hk : 600 < k) : undercroftref03_sealed.f k x = some (sealL x) := by
  unfold undercroftref03_sealed.f
  exact refSealed_l0 (252 - x.length) x k (by omega) (by omega)
theorem refLooks_f (d : List Int) (h : 4 ≤ d.length) : undercroftref03_looks.f d = some (marked d) := by
  unfold undercroftref03_looks.f
  rw [if_pos (by omega)]
  unfold marked
  rw [show (strOfNums markL).toList = ([85, 76, 79, 71] : List UInt8) from by decide +kernel]
theorem refData_l2 (seq : Int) (ws : List S43) (rs : List Int) (hd : ∀ x ∈ ws, x.f1.length = 256) (hn : ws.length ≤ 58) (D : List Int) (hD : D.length = 256) : ∀ (d i k : Nat), i + d = ws.length → d + 16000 < k →
    undercroftref03_Encode.l2 k (D ++ datasL (ws.take i)) (i : Int) seq ws rs = some (D ++ datasL ws ++ sealL (commitL seq (D ++ datasL ws)), 0)
  | 0, i, k, hi, hk => by
    obtain ⟨k, rfl⟩ : ∃ m, k = m + 1 := ⟨k - 1, by omega⟩
    have hl : ∀ l : List S43, (∀ x ∈ l, x.f1.length = 256) → (datasL l).length = 256 * l.length := by
      intro l h
      unfold datasL
      induction l with
      | nil => rfl
      | cons x l ih => rw [List.map_cons, List.flatten_cons, List.length_append, ih (fun y hy => h y (List.mem_cons_of_mem _ hy)), dataL_length (h x List.mem_cons_self), List.length_cons]; omega
    have hb : (D ++ datasL ws).length = 256 + 256 * ws.length := by rw [List.length_append, hD, hl ws hd]
    have hr := X.crcMore_range 0 (D ++ datasL ws)
    have hc : (commitL seq (D ++ datasL ws)).length = 20 := by unfold commitL; rw [List.length_append, headL_length, pbN_length]
    rw [undercroftref03_Encode.l2, if_neg (by omega), List.take_of_length_le (by omega), refHead_f 2 seq (Or.inr rfl) k (by omega), Option.bind_some, refSum_f _ k (by omega) (by omega), Option.bind_some, u64_wrap, Int.emod_eq_of_lt hr.1 (by omega), show (4 : Int) = ((4 : Nat) : Int) from rfl, bytes_pb _ 4 (by decide) k (by omega), Option.bind_some, if_pos (by rw [headL_length, pbN_length]; decide)]
    show (undercroftref03_sealed.f k (commitL seq (D ++ datasL ws))).bind _ = _
    rw [refSealed_f _ (by omega) k (by omega), Option.bind_some, if_pos (by rw [hb, sealL_length (by omega)]; omega)]
  | d + 1, i, k, hi, hk => by
    obtain ⟨k, rfl⟩ : ∃ m, k = m + 1 := ⟨k - 1, by omega⟩
    have ih := refData_l2 seq ws rs hd hn D hD d (i + 1) k (by omega) (by omega)
    have hlt : i < ws.length := by omega
    have hs := datasL_snoc ws i hlt
    have hx : (ws.getD i z43).f1.length = 256 := by
      rw [List.getD_eq_getElem?_getD, List.getElem?_eq_getElem hlt]
      exact hd _ (List.getElem_mem hlt)
    have hrd : rd_T43 ws (i : Int) = ws.getD i z43 := by unfold rd_T43; rw [Int.toNat_natCast]
    have hw : wrap64 ((i : Int) + 1) = ((i + 1 : Nat) : Int) := by rw [wrap64_id (by omega) (by omega)]; omega
    have hl : ∀ l : List S43, (∀ x ∈ l, x.f1.length = 256) → (datasL l).length = 256 * l.length := by
      intro l h
      unfold datasL
      induction l with
      | nil => rfl
      | cons x l ih => rw [List.map_cons, List.flatten_cons, List.length_append, ih (fun y hy => h y (List.mem_cons_of_mem _ hy)), dataL_length (h x List.mem_cons_self), List.length_cons]; omega
    have hb : (D ++ datasL (ws.take i)).length ≤ 20000 := by
      rw [List.length_append, hD, hl (ws.take i) (fun x hx => hd x (List.mem_of_mem_take hx)), List.length_take]
      omega
    rw [hs, ← List.append_assoc] at ih
    rw [undercroftref03_Encode.l2, if_pos (by omega), if_pos (by omega), hrd, hw]
    generalize ws.getD i z43 = x at *
    generalize D ++ datasL (ws.take i) = B at *
    rw [refLooks_f x.f1 (by omega), Option.bind_some]
    by_cases hm : marked x.f1 = true
    · rw [if_pos hm, Option.bind_some, if_pos (by show B.length + 4 < _; omega), Option.bind_some, if_pos (by omega), if_pos (by rw [List.length_append, List.length_drop]; show B.length + 4 + _ < _; omega)]
      unfold dataL at ih
      rw [if_pos hm] at ih
      rw [List.append_assoc]
      exact ih
    · rw [if_neg hm, if_pos (by omega)]
      unfold dataL at ih
      rw [if_neg hm] at ih
      exact ih
theorem refRev_l1 (seq : Int) (ws : List S43) (rs : List Int) (hr0 : ∀ b ∈ rs, 0 ≤ b ∧ b < 1048576) (hd : ∀ x ∈ ws, x.f1.length = 256) (hn : ws.length + rs.length ≤ 58) (D : List Int) (hD : D.length ≤ 20 + 4 * ws.length) : ∀ (d i k : Nat), i + d = rs.length → d + 17000 < k →
    undercroftref03_Encode.l1 k (D ++ revsL (rs.take i)) (i : Int) seq ws rs = some (sealL (D ++ revsL rs) ++ datasL ws ++ sealL (commitL seq (sealL (D ++ revsL rs) ++ datasL ws)), 0)
  | 0, i, k, hi, hk => by
    obtain ⟨k, rfl⟩ : ∃ m, k = m + 1 := ⟨k - 1, by omega⟩
    have hb : (D ++ revsL rs).length ≤ 252 := by rw [List.length_append, revsL_length]; omega
    rw [undercroftref03_Encode.l1, if_neg (by omega), List.take_of_length_le (by omega), refSealed_f _ hb k (by omega), Option.bind_some]
    have := refData_l2 seq ws rs hd (by omega) (sealL (D ++ revsL rs)) (sealL_length hb) ws.length 0 k (by omega) (by omega)
    rw [List.take_zero] at this
    have e : sealL (D ++ revsL rs) ++ datasL [] = sealL (D ++ revsL rs) := by unfold datasL; simp
    rw [e] at this
    exact this
  | d + 1, i, k, hi, hk => by
    obtain ⟨k, rfl⟩ : ∃ m, k = m + 1 := ⟨k - 1, by omega⟩
    have ih := refRev_l1 seq ws rs hr0 hd hn D hD d (i + 1) k (by omega) (by omega)
    have hlt : i < rs.length := by omega
    have hs := revsL_snoc rs i hlt
    have hx : 0 ≤ rs.getD i 0 ∧ rs.getD i 0 < 1048576 := by
      rw [List.getD_eq_getElem?_getD, List.getElem?_eq_getElem hlt]
      exact hr0 _ (List.getElem_mem hlt)
    have hrd : rd rs (i : Int) = rs.getD i 0 := by unfold rd; rw [Int.toNat_natCast]
    have hw : wrap64 ((i : Int) + 1) = ((i + 1 : Nat) : Int) := by rw [wrap64_id (by omega) (by omega)]; omega
    have hb : (D ++ revsL (rs.take i)).length ≤ 300 := by rw [List.length_append, revsL_length, List.length_take]; omega
    rw [hs, ← List.append_assoc] at ih
    rw [undercroftref03_Encode.l1, if_pos (by omega), if_pos (by omega), hrd, hw, u64_wrap, Int.emod_eq_of_lt hx.1 (by omega), show (4 : Int) = ((4 : Nat) : Int) from rfl, bytes_pb _ 4 (by decide) k (by omega), Option.bind_some, if_pos (by rw [pbN_length]; omega)]
    exact ih
theorem refSlot_l0 (seq : Int) (ws : List S43) (rs : List Int) (hr0 : ∀ b ∈ rs, 0 ≤ b ∧ b < 1048576) (hw0 : ∀ x ∈ ws, 0 ≤ x.f0 ∧ x.f0 < 1048576) (hd : ∀ x ∈ ws, x.f1.length = 256) (hn : ws.length + rs.length ≤ 58) (D : List Int) (hD : D.length = 20) : ∀ (d i k : Nat), i + d = ws.length → d + 17100 < k →
    undercroftref03_Encode.l0 k (D ++ slotsL (ws.take i)) (i : Int) seq ws rs = some (sealL (D ++ slotsL ws ++ revsL rs) ++ datasL ws ++ sealL (commitL seq (sealL (D ++ slotsL ws ++ revsL rs) ++ datasL ws)), 0)
  | 0, i, k, hi, hk => by
    obtain ⟨k, rfl⟩ : ∃ m, k = m + 1 := ⟨k - 1, by omega⟩
    rw [undercroftref03_Encode.l0, if_neg (by omega), List.take_of_length_le (by omega)]
    have := refRev_l1 seq ws rs hr0 hd hn (D ++ slotsL ws) (by rw [List.length_append, slotsL_length]; omega) rs.length 0 k (by omega) (by omega)
    rw [List.take_zero] at this
    have e : D ++ slotsL ws ++ revsL [] = D ++ slotsL ws := by unfold revsL; simp
    rw [e] at this
    exact this
  | d + 1, i, k, hi, hk => by
    obtain ⟨k, rfl⟩ : ∃ m, k = m + 1 := ⟨k - 1, by omega⟩
    have ih := refSlot_l0 seq ws rs hr0 hw0 hd hn D hD d (i + 1) k (by omega) (by omega)
    have hlt : i < ws.length := by omega
    have hs := slotsL_snoc ws i hlt
    have hm0 : ws.getD i z43 ∈ ws := by
      rw [List.getD_eq_getElem?_getD, List.getElem?_eq_getElem hlt]
      exact List.getElem_mem hlt
    have hx := hw0 _ hm0
    have hl := hd _ hm0
    have hrd : rd_T43 ws (i : Int) = ws.getD i z43 := by unfold rd_T43; rw [Int.toNat_natCast]
    have hw : wrap64 ((i : Int) + 1) = ((i + 1 : Nat) : Int) := by rw [wrap64_id (by omega) (by omega)]; omega
    have hb : (D ++ slotsL (ws.take i)).length ≤ 300 := by rw [List.length_append, slotsL_length, List.length_take]; omega
    rw [hs, ← List.append_assoc] at ih
    rw [undercroftref03_Encode.l0, if_pos (by omega), if_pos (by omega), hrd, hw]
    generalize ws.getD i z43 = x at *
    rw [refLooks_f x.f1 (by omega), Option.bind_some, u64_wrap x.f0, Int.emod_eq_of_lt hx.1 (by omega)]
    unfold slotN at ih
    by_cases hm : marked x.f1 = true
    · rw [if_pos hm, u64_wrap, Int.emod_eq_of_lt (by omega) (by omega), show (4 : Int) = ((4 : Nat) : Int) from rfl, bytes_pb _ 4 (by decide) k (by omega), Option.bind_some, if_pos (by rw [pbN_length]; omega)]
      rw [if_pos hm] at ih
      exact ih
    · rw [if_neg hm, show (4 : Int) = ((4 : Nat) : Int) from rfl, bytes_pb _ 4 (by decide) k (by omega), Option.bind_some, if_pos (by rw [pbN_length]; omega)]
      rw [if_neg hm] at ih
      exact ih
theorem may_facts {ws : List S43} {rs : List Int} (h : mayB ws rs = true) : (1 ≤ ws.length + rs.length ∧ ws.length + rs.length ≤ 58) ∧ (∀ x ∈ ws, x.f1.length = 256) ∧ (∀ x ∈ ws, 0 ≤ x.f0 ∧ x.f0 < 1048576) ∧ (∀ b ∈ rs, 0 ≤ b ∧ b < 1048576) ∧ (slots3 ws rs).Nodup := by
  obtain ⟨hc, hd, hb, hnd⟩ := (mayB_iff ws rs).1 h
  refine ⟨hc, fun x hx => ?_, fun x hx => hb _ ?_, fun b hb' => hb _ ?_, hnd⟩
  · obtain ⟨i, hi, rfl⟩ := List.mem_iff_getElem.1 hx
    have := hd i hi
    rw [List.getD_eq_getElem?_getD, List.getElem?_eq_getElem hi] at this
    exact this
  · unfold slots3
    exact List.mem_append_left _ (List.mem_map_of_mem hx)
  · unfold slots3
    exact List.mem_append_right _ hb'
theorem refEncode_f (seq : Int) (ws : List S43) (rs : List Int) (p : List Int × Int) (k : Nat) (hk : 17200 < k) (h : record_Encode.f seq ws rs = some p) : undercroftref03_Encode.f k seq ws rs = some p := by
  unfold record_Encode.f record_may.f at h
  unfold undercroftref03_Encode.f undercroftref03_May.f
  by_cases hw : wfSlots ws rs = true ∧ ws.length ≤ 9007199254740992 ∧ rs.length ≤ 9007199254740992
  rotate_left
  · rw [if_neg hw] at h
    cases h
  rw [if_pos hw, Option.bind_some] at h ⊢
  by_cases hm : mayB ws rs = true
  rotate_left
  · rw [if_neg hm] at h ⊢
    exact h
  rw [if_pos hm] at h ⊢
  by_cases hd : wfData ws = true
  rotate_left
  · rw [if_neg hd] at h
    cases h
  rw [if_pos hd] at h
  obtain ⟨hc, h1, h2, h3, -⟩ := may_facts hm
  have e2 : (2 : Int) = ((2 : Nat) : Int) := rfl
  rw [refHead_f 1 seq (Or.inl rfl) k (by omega), Option.bind_some, u64_wrap, Int.emod_eq_of_lt (by omega) (by omega), e2, bytes_pb _ 2 (by decide) k (by omega), Option.bind_some, if_pos (by rw [headL_length, pbN_length]; decide), Option.bind_some, u64_wrap, Int.emod_eq_of_lt (by omega) (by omega), bytes_pb _ 2 (by decide) k (by omega), Option.bind_some, if_pos (by rw [List.length_append, headL_length, pbN_length, pbN_length]; decide)]
  have := refSlot_l0 seq ws rs h3 h2 h1 hc.2 (startL seq ws.length rs.length) (startL_length _ _ _) ws.length 0 k (by omega) (by omega)
  rw [List.take_zero] at this
  have e : startL seq ws.length rs.length ++ slotsL [] = startL seq ws.length rs.length := by unfold slotsL; simp
  rw [e] at this
  rw [← h]
  exact this
end Go.Proofs.Ytpihpabofgmahaa.Pure
