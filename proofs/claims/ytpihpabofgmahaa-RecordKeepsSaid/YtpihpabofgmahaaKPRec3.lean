/- PRec3: what this claim uses. Laid by slim.py (ours). -/
import Derived.Test.YtpihpabofgmahaaKUx7
import Derived.Test.YtpihpabofgmahaaKUx11
import Derived.Test.YtpihpabofgmahaaKUx19
import Derived.Test.YtpihpabofgmahaaKUx20
import Derived.Test.YtpihpabofgmahaaKPRec2
namespace Go.Proofs.Ytpihpabofgmahaa.Pure
open Go Go.RowKit Go.Proofs.Ytpihpabofgmahaa.U Go.Proofs.YtpihpabofgmahaaW.PrintWords Go.Proofs.YtpihpabofgmahaaW.PrintLast Go.Proofs.YtpihpabofgmahaaW.PrintMore
set_option linter.unusedVariables false
set_option linter.unusedSimpArgs false
theorem numL_num : ∀ l : List Int, numL l = num l
  | [] => rfl
  | c :: t => by simp only [numL, num]; rw [numL_num t]
theorem numL_pbN (v n : Nat) : numL (pbN (v : Int) n) = v % 256 ^ n := by rw [numL_num]; exact num_bytesN v n
theorem cut_mid (A B C : List Int) (a n : Nat) (ha : A.length = a) (hn : B.length = n) : cutL (A ++ (B ++ C)) a n = B := by
  subst ha hn
  unfold cutL
  rw [List.take_append, List.take_of_length_le (by omega), show A.length + B.length - A.length = B.length from by omega, List.take_left, List.drop_left]
theorem cut_skip (A B : List Int) (a k n : Nat) (ha : A.length = a) : cutL (A ++ B) (a + k) n = cutL B k n := by
  subst ha
  unfold cutL
  rw [List.take_append, List.take_of_length_le (by omega), show A.length + k + n - A.length = k + n from by omega, List.drop_append, List.drop_eq_nil_of_le (by omega), List.nil_append, show A.length + k - A.length = k from by omega]
theorem cut_chunk {α : Type} (f : α → List Int) (c : Nat) (C : List Int) : ∀ (l : List α) (h : ∀ x ∈ l, (f x).length = c) (i : Nat) (hi : i < l.length), cutL ((l.map f).flatten ++ C) (c * i) c = f l[i]
  | [], _, i, hi => absurd hi (Nat.not_lt_zero i)
  | x :: l, h, 0, _ => by
    rw [List.map_cons, List.flatten_cons, List.append_assoc, Nat.mul_zero]
    exact cut_mid [] (f x) _ 0 c rfl (h x List.mem_cons_self)
  | x :: l, h, i + 1, hi => by
    rw [List.map_cons, List.flatten_cons, List.append_assoc, Nat.mul_succ, Nat.add_comm, cut_skip (f x) _ c (c * i) c (h x List.mem_cons_self)]
    exact cut_chunk f c C l (fun y hy => h y (List.mem_cons_of_mem _ hy)) i (by simpa using hi)
theorem enc_split (a : Int) (ws : List S43) (rs : List Int) (z : List Int) : ∃ C, encL a ws rs ++ z = startL a ws.length rs.length ++ (slotsL ws ++ (revsL rs ++ C)) := by
  unfold encL bodyL sealL fill252 descL
  exact ⟨_, by simp only [List.append_assoc]; rfl⟩
theorem enc_data (a : Int) (ws : List S43) (rs : List Int) (z : List Int) : ∃ C, encL a ws rs ++ z = sealL (descL a ws rs) ++ (datasL ws ++ C) := by
  unfold encL bodyL
  exact ⟨_, by simp only [List.append_assoc]; rfl⟩
theorem cnt_enc {a : Int} {ws : List S43} {rs : List Int} (h : ws.length + rs.length ≤ 58) (z : List Int) : cntL (encL a ws rs ++ z) = ws.length ∧ rcntL (encL a ws rs ++ z) = rs.length := by
  obtain ⟨C, hC⟩ := enc_split a ws rs z
  rw [hC]
  unfold cntL rcntL startL
  simp only [List.append_assoc]
  rw [cut_mid (headL 1 a) (pbN (ws.length : Int) 2) _ 16 2 (headL_length _ _) (pbN_length _ _), numL_pbN]
  rw [show headL 1 a ++ (pbN (ws.length : Int) 2 ++ (pbN (rs.length : Int) 2 ++ (slotsL ws ++ (revsL rs ++ C)))) = (headL 1 a ++ pbN (ws.length : Int) 2) ++ (pbN (rs.length : Int) 2 ++ (slotsL ws ++ (revsL rs ++ C))) from by simp only [List.append_assoc]]
  rw [cut_mid _ (pbN (rs.length : Int) 2) _ 18 2 (by rw [List.length_append, headL_length, pbN_length]) (pbN_length _ _), numL_pbN]
  exact ⟨Nat.mod_eq_of_lt (by omega), Nat.mod_eq_of_lt (by omega)⟩
theorem wordW_enc {a : Int} {ws : List S43} {rs : List Int} (z : List Int) (i : Nat) (hi : i < ws.length) : wordL (encL a ws rs ++ z) i = numL (pbN (slotN ws[i]) 4) := by
  obtain ⟨C, hC⟩ := enc_split a ws rs z
  rw [hC]
  unfold wordL
  rw [cut_skip _ _ 20 (4 * i) 4 (startL_length _ _ _)]
  unfold slotsL
  rw [cut_chunk (fun x : S43 => pbN (slotN x) 4) 4 _ ws (fun _ _ => pbN_length _ _) i hi]
theorem wordR_enc {a : Int} {ws : List S43} {rs : List Int} (z : List Int) (i : Nat) (hi : i < rs.length) : wordL (encL a ws rs ++ z) (ws.length + i) = numL (pbN rs[i] 4) := by
  obtain ⟨C, hC⟩ := enc_split a ws rs z
  rw [hC, ← List.append_assoc]
  unfold wordL
  rw [show 20 + 4 * (ws.length + i) = (20 + 4 * ws.length) + 4 * i from by omega, cut_skip _ _ (20 + 4 * ws.length) (4 * i) 4 (by rw [List.length_append, startL_length, slotsL_length])]
  unfold revsL
  rw [cut_chunk (fun x : Int => pbN x 4) 4 _ rs (fun _ _ => pbN_length _ _) i hi]
theorem data_enc {a : Int} {ws : List S43} {rs : List Int} (h : mayB ws rs = true) (z : List Int) (i : Nat) (hi : i < ws.length) : cutL (encL a ws rs ++ z) (256 * (i + 1)) 256 = dataL ws[i].f1 := by
  obtain ⟨hc, h1, -⟩ := may_facts h
  obtain ⟨C, hC⟩ := enc_data a ws rs z
  rw [hC, show 256 * (i + 1) = 256 + 256 * i from by omega, cut_skip _ _ 256 (256 * i) 256 (sealL_length (desc_le hc.2))]
  unfold datasL
  rw [cut_chunk (fun x : S43 => dataL x.f1) 256 _ ws (fun x hx => dataL_length (h1 x hx)) i hi]
theorem marked_take {d : List Int} (hu : X.u8all d = true) (h : marked d = true) : d.take 4 = markL := by
  unfold marked at h
  rw [beq_iff_eq] at h
  exact (str_inj (X.u8all_take hu 4) (by decide)).1 h
theorem decW_enc {a : Int} {ws : List S43} {rs : List Int} (h : mayB ws rs = true) (hd : wfData ws = true) (z : List Int) (i : Nat) (hi : i < ws.length) : decW (encL a ws rs ++ z) i = ws[i] := by
  obtain ⟨hc, h1, h2, -⟩ := may_facts h
  have hm := List.getElem_mem hi
  have hx := h2 _ hm
  have hu := List.all_eq_true.1 hd _ hm
  unfold decW
  rw [wordW_enc z i hi, data_enc h z i hi]
  generalize ws[i] = x at *
  obtain ⟨b, d⟩ := x
  obtain ⟨n, rfl⟩ := Int.eq_ofNat_of_zero_le hx.1
  have hn : n < 1048576 := by have := hx.2; simp at this; omega
  unfold slotN dataL
  by_cases hk : marked d = true
  · rw [if_pos hk, if_pos hk]
    have e4 : List.drop 4 ([0, 0, 0, 0] ++ d.drop 4) = d.drop 4 := List.drop_left' rfl
    have e5 : markL ++ d.drop 4 = d := by
      have := List.take_append_drop 4 d
      rw [marked_take hu hk] at this
      exact this
    rw [show ((n : Int) + 2147483648) = ((n + 2147483648 : Nat) : Int) from by omega, numL_pbN, Nat.mod_eq_of_lt (show n + 2147483648 < 256 ^ 4 from by omega), if_pos (by omega)]
    rw [e4, e5]
    exact s43_eq.2 ⟨by show ((n + 2147483648 : Nat) : Int) - 2147483648 = (n : Int); omega, rfl⟩
  · simp only [hk]
    simp only [Bool.false_eq_true, if_false]
    rw [numL_pbN, Nat.mod_eq_of_lt (show n < 256 ^ 4 from by omega), if_neg (by omega)]
theorem decWs_enc {a : Int} {ws : List S43} {rs : List Int} (h : mayB ws rs = true) (hd : wfData ws = true) (z : List Int) : decWs (encL a ws rs ++ z) ws.length = ws := by
  apply List.ext_getElem (decWs_length _ _)
  intro i h1 h2
  simp only [decWs, List.getElem_map, List.getElem_range]
  exact decW_enc h hd z i h2
theorem decRs_enc {a : Int} {ws : List S43} {rs : List Int} (h : mayB ws rs = true) (z : List Int) : decRs (encL a ws rs ++ z) ws.length rs.length = rs := by
  obtain ⟨-, -, -, h3, -⟩ := may_facts h
  apply List.ext_getElem (decRs_length _ _ _)
  intro i h1 h2
  simp only [decRs, List.getElem_map, List.getElem_range]
  rw [wordR_enc z i h2]
  have hx := h3 _ (List.getElem_mem h2)
  generalize rs[i] = b at *
  obtain ⟨n, rfl⟩ := Int.eq_ofNat_of_zero_le hx.1
  rw [numL_pbN, Nat.mod_eq_of_lt (by have := hx.2; omega)]
theorem dec_enc {a : Int} {ws : List S43} {rs : List Int} (h : mayB ws rs = true) (hd : wfData ws = true) (z : List Int) : decOf (encL a ws rs ++ z) a = (a, ws, rs, ((ws.length + 2 : Nat) : Int), true) := by
  obtain ⟨hc, -⟩ := may_facts h
  have hl := encL_length (seq := a) h
  obtain ⟨e1, e2⟩ := cnt_enc (a := a) hc.2 z
  unfold decOf
  rw [e1, e2, decWs_enc h hd z, decRs_enc h z, if_neg (by rw [List.length_append, hl]; omega), if_neg (by rw [List.length_append, hl]; omega), if_pos h, if_pos (by rw [← hl]; exact List.take_left)]
end Go.Proofs.Ytpihpabofgmahaa.Pure
