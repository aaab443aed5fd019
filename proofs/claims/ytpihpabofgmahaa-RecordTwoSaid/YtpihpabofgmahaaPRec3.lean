/- A record's blocks are read again. -/
import Derived.Test.YtpihpabofgmahaaUx7
import Derived.Test.YtpihpabofgmahaaUx11
import Derived.Test.YtpihpabofgmahaaUx19
import Derived.Test.YtpihpabofgmahaaUx20
import Derived.Test.YtpihpabofgmahaaPRec2
namespace Go.Proofs.Ytpihpabofgmahaa.Pure
open Go Go.RowKit Go.Proofs.Ytpihpabofgmahaa.U Go.Proofs.YtpihpabofgmahaaW.PrintWords Go.Proofs.YtpihpabofgmahaaW.PrintLast Go.Proofs.YtpihpabofgmahaaW.PrintMore
set_option linter.unusedVariables false
set_option linter.unusedSimpArgs false
theorem s43_eq {x y : S43} : x = y ↔ x.f0 = y.f0 ∧ x.f1 = y.f1 := by
  obtain ⟨a, b⟩ := x
  obtain ⟨c, d⟩ := y
  simp
instance : DecidableEq S43 := fun x y => if h : x.f0 = y.f0 ∧ x.f1 = y.f1 then isTrue (s43_eq.2 h) else isFalse (fun e => h (s43_eq.1 e))
theorem numL_num : ∀ l : List Int, numL l = num l
  | [] => rfl
  | c :: t => by simp only [numL, num]; rw [numL_num t]
theorem numL_pbN (v n : Nat) : numL (pbN (v : Int) n) = v % 256 ^ n := by rw [numL_num]; exact num_bytesN v n
theorem cut_mid (A B C : List Int) (a n : Nat) (ha : A.length = a) (hn : B.length = n) : cutL (A ++ (B ++ C)) a n = B := by
  subst ha hn
  unfold cutL
  rw [List.take_append, List.take_of_length_le (by omega), show A.length + B.length - A.length = B.length from by omega, List.take_left, List.drop_left]
theorem cut_skip (A B : List Int) (a k n : Nat) (ha : A.length = a) : cutL (A ++ B) (a + k) n = cutL B k n := by
  subst ha
  unfold cutL
  rw [List.take_append, List.take_of_length_le (by omega), show A.length + k + n - A.length = k + n from by omega, List.drop_append, List.drop_eq_nil_of_le (by omega), List.nil_append, show A.length + k - A.length = k from by omega]
theorem cut_chunk {α : Type} (f : α → List Int) (c : Nat) (C : List Int) : ∀ (l : List α) (h : ∀ x ∈ l, (f x).length = c) (i : Nat) (hi : i < l.length), cutL ((l.map f).flatten ++ C) (c * i) c = f l[i]
  | [], _, i, hi => absurd hi (Nat.not_lt_zero i)
  | x :: l, h, 0, _ => by
    rw [List.map_cons, List.flatten_cons, List.append_assoc, Nat.mul_zero]
    exact cut_mid [] (f x) _ 0 c rfl (h x List.mem_cons_self)
  | x :: l, h, i + 1, hi => by
    rw [List.map_cons, List.flatten_cons, List.append_assoc, Nat.mul_succ, Nat.add_comm, cut_skip (f x) _ c (c * i) c (h x List.mem_cons_self)]
    exact cut_chunk f c C l (fun y hy => h y (List.mem_cons_of_mem _ hy)) i (by simpa using hi)
theorem cut_take (l : List Int) (m a n : Nat) (h : a + n ≤ m) : cutL (l.take m) a n = cutL l a n := by
  unfold cutL
  rw [List.take_take, Nat.min_eq_left h]
/-- What follows the slots in the first block. -/
theorem enc_split (a : Int) (ws : List S43) (rs : List Int) (z : List Int) : ∃ C, encL a ws rs ++ z = startL a ws.length rs.length ++ (slotsL ws ++ (revsL rs ++ C)) := by
  unfold encL bodyL sealL fill252 descL
  exact ⟨_, by simp only [List.append_assoc]; rfl⟩
theorem enc_data (a : Int) (ws : List S43) (rs : List Int) (z : List Int) : ∃ C, encL a ws rs ++ z = sealL (descL a ws rs) ++ (datasL ws ++ C) := by
  unfold encL bodyL
  exact ⟨_, by simp only [List.append_assoc]; rfl⟩
theorem cnt_enc {a : Int} {ws : List S43} {rs : List Int} (h : ws.length + rs.length ≤ 58) (z : List Int) : cntL (encL a ws rs ++ z) = ws.length ∧ rcntL (encL a ws rs ++ z) = rs.length := by
  obtain ⟨C, hC⟩ := enc_split a ws rs z
  rw [hC]
  unfold cntL rcntL startL
  simp only [List.append_assoc]
  rw [cut_mid (headL 1 a) (pbN (ws.length : Int) 2) _ 16 2 (headL_length _ _) (pbN_length _ _), numL_pbN]
  rw [show headL 1 a ++ (pbN (ws.length : Int) 2 ++ (pbN (rs.length : Int) 2 ++ (slotsL ws ++ (revsL rs ++ C)))) = (headL 1 a ++ pbN (ws.length : Int) 2) ++ (pbN (rs.length : Int) 2 ++ (slotsL ws ++ (revsL rs ++ C))) from by simp only [List.append_assoc]]
  rw [cut_mid _ (pbN (rs.length : Int) 2) _ 18 2 (by rw [List.length_append, headL_length, pbN_length]) (pbN_length _ _), numL_pbN]
  exact ⟨Nat.mod_eq_of_lt (by omega), Nat.mod_eq_of_lt (by omega)⟩
theorem wordW_enc {a : Int} {ws : List S43} {rs : List Int} (z : List Int) (i : Nat) (hi : i < ws.length) : wordL (encL a ws rs ++ z) i = numL (pbN (slotN ws[i]) 4) := by
  obtain ⟨C, hC⟩ := enc_split a ws rs z
  rw [hC]
  unfold wordL
  rw [cut_skip _ _ 20 (4 * i) 4 (startL_length _ _ _)]
  unfold slotsL
  rw [cut_chunk (fun x : S43 => pbN (slotN x) 4) 4 _ ws (fun _ _ => pbN_length _ _) i hi]
theorem wordR_enc {a : Int} {ws : List S43} {rs : List Int} (z : List Int) (i : Nat) (hi : i < rs.length) : wordL (encL a ws rs ++ z) (ws.length + i) = numL (pbN rs[i] 4) := by
  obtain ⟨C, hC⟩ := enc_split a ws rs z
  rw [hC, ← List.append_assoc]
  unfold wordL
  rw [show 20 + 4 * (ws.length + i) = (20 + 4 * ws.length) + 4 * i from by omega, cut_skip _ _ (20 + 4 * ws.length) (4 * i) 4 (by rw [List.length_append, startL_length, slotsL_length])]
  unfold revsL
  rw [cut_chunk (fun x : Int => pbN x 4) 4 _ rs (fun _ _ => pbN_length _ _) i hi]
theorem data_enc {a : Int} {ws : List S43} {rs : List Int} (h : mayB ws rs = true) (z : List Int) (i : Nat) (hi : i < ws.length) : cutL (encL a ws rs ++ z) (256 * (i + 1)) 256 = dataL ws[i].f1 := by
  obtain ⟨hc, h1, -⟩ := may_facts h
  obtain ⟨C, hC⟩ := enc_data a ws rs z
  rw [hC, show 256 * (i + 1) = 256 + 256 * i from by omega, cut_skip _ _ 256 (256 * i) 256 (sealL_length (desc_le hc.2))]
  unfold datasL
  rw [cut_chunk (fun x : S43 => dataL x.f1) 256 _ ws (fun x hx => dataL_length (h1 x hx)) i hi]
theorem marked_take {d : List Int} (hu : X.u8all d = true) (h : marked d = true) : d.take 4 = markL := by
  unfold marked at h
  rw [beq_iff_eq] at h
  exact (str_inj (X.u8all_take hu 4) (by decide)).1 h
theorem decW_enc {a : Int} {ws : List S43} {rs : List Int} (h : mayB ws rs = true) (hd : wfData ws = true) (z : List Int) (i : Nat) (hi : i < ws.length) : decW (encL a ws rs ++ z) i = ws[i] := by
  obtain ⟨hc, h1, h2, -⟩ := may_facts h
  have hm := List.getElem_mem hi
  have hx := h2 _ hm
  have hu := List.all_eq_true.1 hd _ hm
  unfold decW
  rw [wordW_enc z i hi, data_enc h z i hi]
  generalize ws[i] = x at *
  obtain ⟨b, d⟩ := x
  obtain ⟨n, rfl⟩ := Int.eq_ofNat_of_zero_le hx.1
  have hn : n < 1048576 := by have := hx.2; simp at this; omega
  unfold slotN dataL
  by_cases hk : marked d = true
  · rw [if_pos hk, if_pos hk]
    have e4 : List.drop 4 ([0, 0, 0, 0] ++ d.drop 4) = d.drop 4 := List.drop_left' rfl
    have e5 : markL ++ d.drop 4 = d := by
      have := List.take_append_drop 4 d
      rw [marked_take hu hk] at this
      exact this
    rw [show ((n : Int) + 2147483648) = ((n + 2147483648 : Nat) : Int) from by omega, numL_pbN, Nat.mod_eq_of_lt (show n + 2147483648 < 256 ^ 4 from by omega), if_pos (by omega)]
    rw [e4, e5]
    exact s43_eq.2 ⟨by show ((n + 2147483648 : Nat) : Int) - 2147483648 = (n : Int); omega, rfl⟩
  · simp only [hk]
    simp only [Bool.false_eq_true, if_false]
    rw [numL_pbN, Nat.mod_eq_of_lt (show n < 256 ^ 4 from by omega), if_neg (by omega)]
theorem decWs_enc {a : Int} {ws : List S43} {rs : List Int} (h : mayB ws rs = true) (hd : wfData ws = true) (z : List Int) : decWs (encL a ws rs ++ z) ws.length = ws := by
  apply List.ext_getElem (decWs_length _ _)
  intro i h1 h2
  simp only [decWs, List.getElem_map, List.getElem_range]
  exact decW_enc h hd z i h2
theorem decRs_enc {a : Int} {ws : List S43} {rs : List Int} (h : mayB ws rs = true) (z : List Int) : decRs (encL a ws rs ++ z) ws.length rs.length = rs := by
  obtain ⟨-, -, -, h3, -⟩ := may_facts h
  apply List.ext_getElem (decRs_length _ _ _)
  intro i h1 h2
  simp only [decRs, List.getElem_map, List.getElem_range]
  rw [wordR_enc z i h2]
  have hx := h3 _ (List.getElem_mem h2)
  generalize rs[i] = b at *
  obtain ⟨n, rfl⟩ := Int.eq_ofNat_of_zero_le hx.1
  rw [numL_pbN, Nat.mod_eq_of_lt (by have := hx.2; omega)]
/-- A record's blocks are read again, whatever stands behind. -/
theorem dec_enc {a : Int} {ws : List S43} {rs : List Int} (h : mayB ws rs = true) (hd : wfData ws = true) (z : List Int) : decOf (encL a ws rs ++ z) a = (a, ws, rs, ((ws.length + 2 : Nat) : Int), true) := by
  obtain ⟨hc, -⟩ := may_facts h
  have hl := encL_length (seq := a) h
  obtain ⟨e1, e2⟩ := cnt_enc (a := a) hc.2 z
  unfold decOf
  rw [e1, e2, decWs_enc h hd z, decRs_enc h z, if_neg (by rw [List.length_append, hl]; omega), if_neg (by rw [List.length_append, hl]; omega), if_pos h, if_pos (by rw [← hl]; exact List.take_left)]
/-- .. not with another number. -/
theorem enc_seq {a b : Int} {ws us : List S43} {rs qs : List Int} (y z : List Int) (ha : 0 ≤ a ∧ a < 18446744073709551616) (hb : 0 ≤ b ∧ b < 18446744073709551616) (h : encL a ws rs ++ y = encL b us qs ++ z) : a = b := by
  have key : ∀ (c : Int) (vs : List S43) (ps x : List Int), 0 ≤ c ∧ c < 18446744073709551616 → (numL (cutL (encL c vs ps ++ x) 8 8) : Int) = c := by
    intro c vs ps x hc
    obtain ⟨C, hC⟩ := enc_split c vs ps x
    rw [hC]
    unfold startL headL
    simp only [List.append_assoc]
    rw [← List.append_assoc [85, 76, 79, 71] (pbN 1 4) _, cut_mid ([85, 76, 79, 71] ++ pbN 1 4) (pbN c 8) _ 8 8 (by rw [List.length_append, pbN_length]; rfl) (pbN_length _ _)]
    obtain ⟨n, rfl⟩ := Int.eq_ofNat_of_zero_le hc.1
    rw [numL_pbN, Nat.mod_eq_of_lt (by have := hc.2; omega)]
  have := key a ws rs y ha
  rw [h, key b us qs z hb] at this
  exact this.symm
theorem dec_other {a b : Int} {ws : List S43} {rs : List Int} (ha : 0 ≤ a ∧ a < 18446744073709551616) (hb : 0 ≤ b ∧ b < 18446744073709551616) (hne : a ≠ b) (h : mayB ws rs = true) (hd : wfData ws = true) (z : List Int) : decOf (encL a ws rs ++ z) b = badT := by
  obtain ⟨hc, -⟩ := may_facts h
  have hl := encL_length (seq := a) h
  obtain ⟨e1, e2⟩ := cnt_enc (a := a) hc.2 z
  unfold decOf
  rw [e1, e2, decWs_enc h hd z, decRs_enc h z, if_neg (by rw [List.length_append, hl]; omega), if_neg (by rw [List.length_append, hl]; omega), if_pos h, if_neg]
  rw [← hl, List.take_left]
  intro he
  refine hne (enc_seq (ws := ws) (us := ws) (rs := rs) (qs := rs) [] [] ha hb ?_)
  rw [List.append_nil, List.append_nil]
  exact he
/-- .. nor cut short. -/
theorem dec_short {a b : Int} {ws : List S43} {rs : List Int} (h : mayB ws rs = true) (z : List Int) (m : Nat) (hm : m < (ws.length + 2) * 256) : decOf ((encL a ws rs ++ z).take m) b = badT := by
  obtain ⟨hc, -⟩ := may_facts h
  have hl := encL_length (seq := a) h
  obtain ⟨e1, e2⟩ := cnt_enc (a := a) hc.2 z
  have hlt : ((encL a ws rs ++ z).take m).length = m := by rw [List.length_take, List.length_append, hl]; omega
  unfold decOf
  by_cases h5 : m < 512
  · rw [if_pos (by rw [hlt]; exact h5)]
  · rw [if_neg (by rw [hlt]; exact h5), if_pos]
    right
    have : cntL ((encL a ws rs ++ z).take m) = ws.length := by
      rw [← e1]
      unfold cntL
      rw [cut_take _ _ _ _ (by omega)]
    rw [this, hlt]
    exact hm
/-- What is known of bytes that are read. -/
theorem decOf_ok {l : List Int} {a : Int} (h : (decOf l a).2.2.2.2 = true) : ∃ ws rs, mayB ws rs = true ∧ decOf l a = (a, ws, rs, ((ws.length + 2 : Nat) : Int), true) ∧ (ws.length + 2) * 256 ≤ l.length ∧ l.take ((ws.length + 2) * 256) = encL a ws rs ∧ ws = decWs l ws.length ∧ rs = decRs l ws.length rs.length ∧ 20 + 4 * (ws.length + rs.length) ≤ l.length := by
  by_cases h1 : l.length < 512
  · exact absurd h (by unfold decOf; rw [if_pos h1]; decide)
  by_cases h2 : 58 < cntL l + rcntL l ∨ l.length < (cntL l + 2) * 256
  · exact absurd h (by unfold decOf; rw [if_neg h1, if_pos h2]; decide)
  by_cases h3 : mayB (decWs l (cntL l)) (decRs l (cntL l) (rcntL l)) = true
  rotate_left
  · exact absurd h (by unfold decOf; rw [if_neg h1, if_neg h2, if_neg h3]; decide)
  by_cases h4 : l.take ((cntL l + 2) * 256) = encL a (decWs l (cntL l)) (decRs l (cntL l) (rcntL l))
  rotate_left
  · exact absurd h (by unfold decOf; rw [if_neg h1, if_neg h2, if_pos h3, if_neg h4]; decide)
  refine ⟨decWs l (cntL l), decRs l (cntL l) (rcntL l), h3, ?_, ?_, ?_, ?_, ?_, ?_⟩
  · unfold decOf
    rw [if_neg h1, if_neg h2, if_pos h3, if_pos h4, decWs_length]
  · rw [decWs_length]; omega
  · rw [decWs_length]; exact h4
  · rw [decWs_length]
  · rw [decWs_length, decRs_length]
  · rw [decWs_length, decRs_length]; omega
theorem decOf_no {l : List Int} {a : Int} (h : (decOf l a).2.2.2.2 = false) : decOf l a = badT := by
  unfold decOf at h ⊢
  split
  · rfl
  rename_i h1
  rw [if_neg h1] at h
  split
  · rfl
  rename_i h2
  rw [if_neg h2] at h
  split
  · rename_i h3
    rw [if_pos h3] at h
    split
    · rename_i h4
      rw [if_pos h4] at h
      cases h
    · rfl
  · rfl
/-! ### two records are the same -/
theorem sameInts_g0 (l m : List Int) (hl : l.length = m.length) (hm : l.length ≤ 9223372036854775807) : ∀ (d i k : Nat), i + d = l.length → d < k → undercroftref03_SameInts.l0 k l m (i : Int) = some (decide (l.drop i = m.drop i))
  | 0, i, k, hi, hk => by
    obtain ⟨k, rfl⟩ : ∃ m, k = m + 1 := ⟨k - 1, by omega⟩
    rw [undercroftref03_SameInts.l0, if_neg (by omega), List.drop_eq_nil_of_le (by omega), List.drop_eq_nil_of_le (by omega)]
    rfl
  | d + 1, i, k, hi, hk => by
    obtain ⟨k, rfl⟩ : ∃ m, k = m + 1 := ⟨k - 1, by omega⟩
    have hw : wrap64 ((i : Int) + 1) = ((i + 1 : Nat) : Int) := by rw [wrap64_id (by omega) (by omega)]; omega
    have ih := sameInts_g0 l m hl hm d (i + 1) k (by omega) (by omega)
    rw [undercroftref03_SameInts.l0, if_pos (by omega), if_pos (by omega), if_pos (by omega), hw, ih]
    have r1 : rd l (i : Int) = l[i]'(by omega) := by unfold rd; rw [Int.toNat_natCast, List.getD_eq_getElem?_getD, List.getElem?_eq_getElem (by omega)]; rfl
    have r2 : rd m (i : Int) = m[i]'(by omega) := by unfold rd; rw [Int.toNat_natCast, List.getD_eq_getElem?_getD, List.getElem?_eq_getElem (by omega)]; rfl
    rw [r1, r2, List.drop_eq_getElem_cons (l := l) (i := i) (by omega), List.drop_eq_getElem_cons (l := m) (i := i) (by omega)]
    by_cases he : l[i]'(by omega) = m[i]'(by omega)
    · rw [if_pos he, he]
      simp only [List.cons.injEq, true_and]
    · rw [if_neg he]
      simp only [List.cons.injEq, he, false_and, decide_false]
theorem sameInts_g (l m : List Int) (hm : l.length ≤ 9223372036854775807) (hm2 : m.length ≤ 9223372036854775807) (k : Nat) (hk : l.length < k) : undercroftref03_SameInts.f k l m = some (decide (l = m)) := by
  unfold undercroftref03_SameInts.f
  by_cases hl : l.length = m.length
  · rw [if_pos (by omega)]
    exact sameInts_g0 l m hl hm l.length 0 k (by omega) hk
  · rw [if_neg (by omega)]
    have : ¬ l = m := fun e => hl (by rw [e])
    simp [this]
theorem same_g0 (a b : Int) (ws us : List S43) (rs qs : List Int) (hl : ws.length = us.length) (hm : ws.length ≤ 9223372036854775807) (hw1 : wfData ws = true) (hw2 : wfData us = true) : ∀ (d i k : Nat), i + d = ws.length → d < k → undercroftref03_Same.l0 k (i : Int) a ws rs b us qs = some (decide (ws.drop i = us.drop i))
  | 0, i, k, hi, hk => by
    obtain ⟨k, rfl⟩ : ∃ m, k = m + 1 := ⟨k - 1, by omega⟩
    rw [undercroftref03_Same.l0, if_neg (by omega), List.drop_eq_nil_of_le (by omega), List.drop_eq_nil_of_le (by omega)]
    rfl
  | d + 1, i, k, hi, hk => by
    obtain ⟨k, rfl⟩ : ∃ m, k = m + 1 := ⟨k - 1, by omega⟩
    have hw : wrap64 ((i : Int) + 1) = ((i + 1 : Nat) : Int) := by rw [wrap64_id (by omega) (by omega)]; omega
    have ih := same_g0 a b ws us rs qs hl hm hw1 hw2 d (i + 1) k (by omega) (by omega)
    rw [undercroftref03_Same.l0, if_pos (by omega), if_pos (by omega), if_pos (by omega), hw, ih]
    have r1 : rd_T43 ws (i : Int) = ws[i]'(by omega) := by unfold rd_T43; rw [Int.toNat_natCast, List.getD_eq_getElem?_getD, List.getElem?_eq_getElem (by omega)]; rfl
    have r2 : rd_T43 us (i : Int) = us[i]'(by omega) := by unfold rd_T43; rw [Int.toNat_natCast, List.getD_eq_getElem?_getD, List.getElem?_eq_getElem (by omega)]; rfl
    have u1 := List.all_eq_true.1 hw1 _ (List.getElem_mem (show i < ws.length by omega))
    have u2 := List.all_eq_true.1 hw2 _ (List.getElem_mem (show i < us.length by omega))
    rw [r1, r2, List.drop_eq_getElem_cons (l := ws) (i := i) (by omega), List.drop_eq_getElem_cons (l := us) (i := i) (by omega)]
    by_cases he : (ws[i]'(by omega)).f0 = (us[i]'(by omega)).f0
    · rw [if_pos he]
      by_cases hs : (ws[i]'(by omega)).f1 = (us[i]'(by omega)).f1
      · rw [if_pos (by rw [hs]), s43_eq.2 ⟨he, hs⟩]
        simp only [List.cons.injEq, true_and]
      · rw [if_neg (fun e => hs ((str_inj u1 u2).1 e))]
        simp only [List.cons.injEq, s43_eq, hs, and_false, false_and, decide_false]
    · rw [if_neg he]
      simp only [List.cons.injEq, s43_eq, he, false_and, decide_false]
theorem same_g (a b : Int) (ws us : List S43) (rs qs : List Int) (h1 : ws.length ≤ 9223372036854775807) (h2 : us.length ≤ 9223372036854775807) (h3 : rs.length ≤ 9223372036854775807) (h4 : qs.length ≤ 9223372036854775807) (hw1 : wfData ws = true) (hw2 : wfData us = true) (k : Nat) (hk : ws.length + rs.length + 1 < k) : undercroftref03_Same.f k a ws rs b us qs = some (decide (a = b ∧ ws = us ∧ rs = qs)) := by
  obtain ⟨k, rfl⟩ : ∃ m, k = m + 1 := ⟨k - 1, by omega⟩
  unfold undercroftref03_Same.f
  by_cases e1 : a = b
  rotate_left
  · rw [if_neg e1]
    simp [e1, undercroftref03_Same.j0]
  rw [if_pos e1]
  by_cases e2 : ws.length = us.length
  rotate_left
  · rw [if_neg (by omega)]
    have : ¬ ws = us := fun e => e2 (by rw [e])
    simp [this, undercroftref03_Same.j0]
  rw [if_pos (by omega), sameInts_g rs qs h3 h4 (k + 1) (by omega), Option.bind_some]
  by_cases e3 : rs = qs
  rotate_left
  · simp [e3, undercroftref03_Same.j0]
  rw [undercroftref03_Same.j0]
  simp only [e3, e1, decide_true, Bool.not_true, Bool.false_eq_true, if_false, true_and, and_true]
  have := same_g0 b b ws us qs qs e2 h1 hw1 hw2 ws.length 0 k (by omega) (by omega)
  simpa using this
/-! ### what is known of a record that came in -/
/-- A record as it comes in. -/
structure Came (a : Int) (ws : List S43) (rs : List Int) : Prop where
  seq : 0 ≤ a ∧ a < 18446744073709551616
  slots : wfSlots ws rs = true
  data : wfData ws = true
  lw : ws.length ≤ 4398046510976
  lr : rs.length ≤ 17592186043904
  ld : ∀ x ∈ ws, x.f1.length ≤ 140737488351232
theorem came {a : Int} {ws : List S43} {rs : List Int} (w0 : (Lit.int .u64 a).wf = true) (hw : ∀ x ∈ ws, (Lit.int .i64 x.f0).wf = true ∧ (∀ c ∈ x.f1, (Lit.int .u8 c).wf = true) ∧ x.f1.length * 1 ≤ 140737488351232) (y1 : ws.length * 32 ≤ 140737488351232) (hr : ∀ x ∈ rs, (Lit.int .i64 x).wf = true) (y2 : rs.length * 8 ≤ 140737488351232) : Came a ws rs := by
  refine ⟨?_, ?_, ?_, by omega, by omega, fun x hx => by have := (hw x hx).2.2; omega⟩
  · simp [Lit.wf, IntKind.max, IntKind.min, IntKind.bits, IntKind.signed] at w0
    omega
  · refine List.all_eq_true.2 (fun b hb => ?_)
    unfold slots3 at hb
    rcases List.mem_append.1 hb with hb | hb
    · obtain ⟨x, hx, rfl⟩ := List.mem_map.1 hb
      exact (hw x hx).1
    · exact hr b hb
  · exact List.all_eq_true.2 (fun x hx => X.u8all_wf (hw x hx).2.1)
theorem Came.enc {a : Int} {ws : List S43} {rs : List Int} (h : Came a ws rs) : record_Encode.f a ws rs = some (if mayB ws rs = true then (encL a ws rs, 0) else ([], 17)) := encode_total a h.slots h.data (by have := h.lw; omega) (by have := h.lr; omega)
theorem encL_le {a : Int} {ws : List S43} {rs : List Int} (h : mayB ws rs = true) : (encL a ws rs).length ≤ 15360 := by
  obtain ⟨hc, -⟩ := may_facts h
  rw [encL_length h]
  omega
end Go.Proofs.Ytpihpabofgmahaa.Pure
