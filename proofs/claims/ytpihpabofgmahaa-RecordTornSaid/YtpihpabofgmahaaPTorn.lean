/- A record whose blocks are changed within 32 bits side by side is not read. -/
import Derived.Test.YtpihpabofgmahaaUx7
import Derived.Test.YtpihpabofgmahaaUx11
import Derived.Test.YtpihpabofgmahaaPRec3
import Derived.Test.YtpihpabofgmahaaPFlip
namespace Go.Proofs.Ytpihpabofgmahaa.Pure
open Go Go.RowKit Go.Proofs.Ytpihpabofgmahaa.U Go.Proofs.YtpihpabofgmahaaW.PrintWords Go.Proofs.YtpihpabofgmahaaW.PrintLast Go.Proofs.YtpihpabofgmahaaW.PrintMore
set_option linter.unusedVariables false
set_option linter.unusedSimpArgs false
theorem num_take (l : List Int) (hu : X.u8all l = true) (k : Nat) (hk : k ≤ l.length) : num (l.take k) = num l % 256 ^ k ∧ num (l.drop k) = num l / 256 ^ k := by
  have h1 := num_append (l.take k) (l.drop k)
  rw [List.take_append_drop, List.length_take, Nat.min_eq_left hk] at h1
  have h2 := num_lt (l.take k) (X.u8all_take hu k)
  rw [List.length_take, Nat.min_eq_left hk] at h2
  have hp : 0 < 256 ^ k := Nat.pow_pos (by decide)
  rw [h1]
  constructor
  · rw [Nat.add_mul_mod_self_left, Nat.mod_eq_of_lt h2]
  · rw [Nat.add_mul_div_left _ _ hp, Nat.div_eq_of_lt h2, Nat.zero_add]
theorem pow_8 (k : Nat) : (256 : Nat) ^ k = 2 ^ (8 * k) := by rw [Nat.pow_mul]
theorem le_take (l : List Int) (hu : X.u8all l = true) (k : Nat) (hk : k ≤ l.length) : X.le (l.take k) = X.le l % 2 ^ (8 * k) ∧ X.le (l.drop k) = X.le l / 2 ^ (8 * k) := by
  rw [le_num _ (X.u8all_take hu k), le_num _ (X.u8all_drop hu k), le_num _ hu, ← pow_8]
  exact num_take l hu k hk
theorem le_inj {l m : List Int} (hl : X.u8all l = true) (hm : X.u8all m = true) (hn : l.length = m.length) (h : X.le l = X.le m) : l = m := by
  rw [le_num _ hl, le_num _ hm] at h
  exact num_inj l m hl hm hn h
/-- What is turned in a part. -/
theorem le_split {z b : List Int} {V : Nat} (hz : X.u8all z = true) (hb : X.u8all b = true) (hn : z.length = b.length) (h : X.le z = X.le b ^^^ V) (k : Nat) (hk : k ≤ b.length) :
    X.le (z.take k) = X.le (b.take k) ^^^ (V % 2 ^ (8 * k)) ∧ X.le (z.drop k) = X.le (b.drop k) ^^^ (V / 2 ^ (8 * k)) := by
  obtain ⟨z1, z2⟩ := le_take z hz k (by omega)
  obtain ⟨b1, b2⟩ := le_take b hb k hk
  rw [z1, z2, b1, b2, h, Nat.xor_mod_two_pow, Nat.xor_div_two_pow]
  exact ⟨rfl, rfl⟩
theorem seal_split (p : List Int) : sealL p = fill252 p ++ bytesN (X.crcMore 0 (fill252 p)) 4 ++ [] := by rw [List.append_nil]; rfl
theorem fill252_length {p : List Int} (h : p.length ≤ 252) : (fill252 p).length = 252 := by unfold fill252; rw [List.length_append, List.length_replicate]; omega
theorem fill252_u8' {p : List Int} (h : X.u8all p = true) : X.u8all (fill252 p) = true := X.u8all_append.2 ⟨h, X.u8all_iff.2 (fun c hc => by rw [(List.mem_replicate.1 hc).2]; decide)⟩
/-- Two sealed blocks do not differ within 32 bits side by side. -/
theorem no_seal {p q : List Int} (hp : p.length ≤ 252) (hq : q.length ≤ 252) (hpu : X.u8all p = true) (hqu : X.u8all q = true) (W first : Nat) (hW : W < 2 ^ 32) (h0 : W ≠ 0) (hf : first ≤ 8 * 256) (he : X.le (sealL q) = X.le (sealL p) ^^^ (W * 2 ^ first)) : False := by
  refine no_burst 0 (fill252 p) (fill252 q) [] (fill252_u8' hpu) (fill252_u8' hqu) rfl (by rw [fill252_length hp, fill252_length hq]) W first hW h0 ?_ ?_
  · rw [← seal_split, sealL_length hp]; exact hf
  · rw [← seal_split, ← seal_split]; exact he
theorem body_length {a : Int} {ws : List S43} {rs : List Int} (h : mayB ws rs = true) : (bodyL a ws rs).length = (ws.length + 1) * 256 := by
  obtain ⟨hc, h1, -⟩ := may_facts h
  unfold bodyL
  rw [List.length_append, sealL_length (desc_le hc.2), datas_length h1]
  omega
theorem enc_drop {a : Int} {ws : List S43} {rs : List Int} (h : mayB ws rs = true) : (encL a ws rs).take ((ws.length + 1) * 256) = bodyL a ws rs ∧ (encL a ws rs).drop ((ws.length + 1) * 256) = sealL (commitL a (bodyL a ws rs)) := by
  unfold encL
  rw [← body_length (a := a) h]
  exact ⟨List.take_left, List.drop_left⟩
theorem enc_first {a : Int} {ws : List S43} {rs : List Int} (h : mayB ws rs = true) : (encL a ws rs).take 256 = sealL (descL a ws rs) := by
  obtain ⟨hc, -⟩ := may_facts h
  unfold encL bodyL
  rw [List.append_assoc, ← sealL_length (desc_le (seq := a) hc.2)]
  exact List.take_left
theorem commit_u8 (a : Int) (x : List Int) : X.u8all (commitL a x) = true := X.u8all_append.2 ⟨headL_u8 _ _, pbN_u8 _ _⟩
theorem commit_inj {a : Int} {x y : List Int} (h : sealL (commitL a x) = sealL (commitL a y)) : X.crcMore 0 x = X.crcMore 0 y := by
  have key : ∀ x : List Int, (numL (cutL (sealL (commitL a x)) 16 4) : Int) = X.crcMore 0 x := by
    intro x
    have hr := X.crcMore_range 0 x
    unfold sealL fill252
    generalize pbN (X.crcMore 0 (commitL a x ++ List.replicate (252 - (commitL a x).length) 0)) 4 = T
    unfold commitL
    simp only [List.append_assoc]
    rw [cut_mid (headL 2 a) (pbN (X.crcMore 0 x) 4) _ 16 4 (headL_length _ _) (pbN_length _ _)]
    obtain ⟨n, hn⟩ := Int.eq_ofNat_of_zero_le hr.1
    rw [hn, numL_pbN, Nat.mod_eq_of_lt (by have := hr.2; omega)]
  have h1 := key x
  rw [h, key y] at h1
  exact h1.symm
theorem commit_mark (a : Int) (x : List Int) : (sealL (commitL a x)).take 4 = markL := by
  unfold sealL fill252 commitL headL
  simp only [List.append_assoc]
  exact List.take_left' rfl
theorem two_pow_lt {W first n : Nat} (h0 : W ≠ 0) (h : W * 2 ^ first < 2 ^ n) : first < n := by
  rcases Nat.lt_or_ge first n with h1 | h1
  · exact h1
  · exfalso
    have : 2 ^ n ≤ 2 ^ first := Nat.pow_le_pow_right (by decide) h1
    have : 2 ^ first ≤ W * 2 ^ first := Nat.le_mul_of_pos_left _ (Nat.pos_of_ne_zero h0)
    omega
theorem pow_ge {W first n : Nat} (hW : W < 2 ^ 32) (h : 2 ^ n ≤ W * 2 ^ first) : n < first + 32 := by
  rcases Nat.lt_or_ge n (first + 32) with h1 | h1
  · exact h1
  · exfalso
    have h2 : W * 2 ^ first < 2 ^ 32 * 2 ^ first := Nat.mul_lt_mul_of_pos_right hW (Nat.pow_pos (by decide))
    rw [← Nat.pow_add, Nat.add_comm] at h2
    have : 2 ^ (first + 32) ≤ 2 ^ n := Nat.pow_le_pow_right (by decide) h1
    omega
theorem mul_pow_mod {W first n : Nat} (h : n ≤ first) : W * 2 ^ first % 2 ^ n = 0 ∧ W * 2 ^ first / 2 ^ n = W * 2 ^ (first - n) := by
  have : W * 2 ^ first = (W * 2 ^ (first - n)) * 2 ^ n := by rw [Nat.mul_assoc, ← Nat.pow_add]; congr 2; omega
  rw [this, Nat.mul_mod_left, Nat.mul_div_cancel _ (Nat.pow_pos (by decide))]
  exact ⟨rfl, rfl⟩
theorem torn_far {m first : Nat} (h1 : 8 * m ≤ first) (h2 : ¬ first - 8 * m ≤ 2048) : 8 * (m + 256) ≤ first := by omega
set_option maxRecDepth 100000 in
/-- A record turned within 32 bits side by side is not read. -/
theorem torn {a : Int} {ws : List S43} {rs : List Int} (h : mayB ws rs = true) (hd : wfData ws = true) {z : List Int} (hz : X.u8all z = true) (hn : z.length = (encL a ws rs).length) {W first : Nat} (hW : W < 2 ^ 32) (h0 : W ≠ 0)
    (hle : X.le z = X.le (encL a ws rs) ^^^ (W * 2 ^ first)) : (decOf z a).2.2.2.2 = false := by
  rcases hb : (decOf z a).2.2.2.2 with _ | _
  · rfl
  exfalso
  obtain ⟨us, qs, h1, h2, h3, h4, h5, h6, h7⟩ := decOf_ok hb
  obtain ⟨hc, -⟩ := may_facts h
  obtain ⟨hc2, -⟩ := may_facts h1
  have hu := encL_u8 (seq := a) (rs := rs) hd
  have hdu := dec_wf hz (n := us.length) (r := qs.length) h7
  rw [← h5, ← h6] at hdu
  have hl := encL_length (seq := a) h
  have hq0 : z.take 256 = sealL (descL a us qs) := by
    rw [← enc_first h1, ← h4, List.take_take, Nat.min_eq_left (by omega)]
  by_cases hV : W * 2 ^ first < 2 ^ (8 * 256)
  · have e1 := (le_split hz hu hn hle 256 (by omega)).1
    rw [Nat.mod_eq_of_lt hV, hq0, enc_first h] at e1
    exact no_seal (desc_le hc.2) (desc_le hc2.2) (descL_u8 _ _ _) (descL_u8 _ _ _) W first hW h0 (Nat.le_of_lt (two_pow_lt h0 hV)) e1
  have hf : 8 * 252 < first := by
    have := pow_ge hW (Nat.le_of_not_lt hV)
    omega
  have e252 : z.take 252 = (encL a ws rs).take 252 := by
    have e1 := (le_split hz hu hn hle 252 (by omega)).1
    rw [(mul_pow_mod (W := W) (Nat.le_of_lt hf)).1, Nat.xor_zero] at e1
    exact le_inj (X.u8all_take hz _) (X.u8all_take hu _) (by rw [List.length_take, List.length_take, hn]) e1
  have hcnt : us.length = ws.length := by
    have c1 : cntL z = cntL (encL a ws rs) := by
      unfold cntL
      rw [← cut_take z 252 16 2 (by decide), e252, cut_take _ 252 16 2 (by decide)]
    have c2 := (cnt_enc (a := a) hc.2 []).1
    have c3 := (cnt_enc (a := a) hc2.2 []).1
    rw [List.append_nil] at c2 c3
    rw [← h4] at c3
    unfold cntL at c3
    rw [cut_take _ _ _ _ (by omega)] at c3
    have c4 : cntL z = us.length := c3
    omega
  have hze : z = encL a us qs := by
    rw [← h4, List.take_of_length_le (by rw [hn, hl, hcnt]; exact Nat.le_refl _)]
  obtain ⟨d1, d2⟩ := enc_drop (a := a) h
  obtain ⟨d3, d4⟩ := enc_drop (a := a) h1
  rw [hcnt, ← hze] at d3 d4
  obtain ⟨s1, s2⟩ := le_split hz hu hn hle ((ws.length + 1) * 256) (by rw [hl]; omega)
  rw [d1, d3] at s1
  rw [d2, d4] at s2
  have hbl := body_length (a := a) h
  have hbl2 := body_length (a := a) h1
  have hbu := bodyL_u8 (seq := a) (rs := rs) hd
  have hbu2 := bodyL_u8 (seq := a) (rs := qs) hdu.2
  have hcl : ∀ x, (commitL a x).length ≤ 252 := fun x => by rw [commit_length]; decide
  by_cases hK : W * 2 ^ first < 2 ^ (8 * ((ws.length + 1) * 256))
  · have hlt : first < 8 * ((ws.length + 1) * 256) := two_pow_lt h0 hK
    have hlt2 : first ≤ 8 * (bodyL a ws rs).length := by
      rw [hbl]
      exact Nat.le_of_lt hlt
    have hcr : 8 * (bodyL a ws rs).length = 8 * ((ws.length + 1) * 256) := by rw [hbl]
    rw [Nat.mod_eq_of_lt hK] at s1
    rw [Nat.div_eq_of_lt hK, Nat.xor_zero] at s2
    have e := le_inj (sealL_u8 (commit_u8 _ _)) (sealL_u8 (commit_u8 _ _)) (by rw [sealL_length (hcl _), sealL_length (hcl _)]) s2
    exact X.sum_burst _ _ hbu hbu2 (by rw [hbl, hbl2, hcnt]) 0 W first hW h0 hlt2 s1 (commit_inj e)
  · have hpow := pow_ge hW (Nat.le_of_not_lt hK)
    by_cases hK2 : 8 * ((ws.length + 1) * 256) ≤ first
    · rw [(mul_pow_mod (W := W) hK2).2] at s2
      by_cases hbig : first - 8 * ((ws.length + 1) * 256) ≤ 8 * 256
      · exact no_seal (hcl _) (hcl _) (commit_u8 _ _) (commit_u8 _ _) W _ hW h0 hbig s2
      · have e1 := le_take z hz z.length (Nat.le_refl _)
        have e2 := le_take _ hu (encL a ws rs).length (Nat.le_refl _)
        rw [List.take_length] at e1 e2
        have s3 := le_split hz hu hn hle (encL a ws rs).length (Nat.le_refl _)
        have s4 := s3.2
        rw [List.drop_length, ← hn, List.drop_length] at s4
        have hle0 : X.le ([] : List Int) = 0 := rfl
        rw [hle0, Nat.zero_xor, hn, (mul_pow_mod (W := W) (show 8 * (encL a ws rs).length ≤ first by rw [hl, show (ws.length + 2) * 256 = (ws.length + 1) * 256 + 256 from Nat.succ_mul _ _]; exact torn_far hK2 hbig)).2] at s4
        have : 0 < W * 2 ^ (first - 8 * (encL a ws rs).length) := Nat.mul_pos (Nat.pos_of_ne_zero h0) (Nat.pow_pos (by decide))
        omega
    · have e := (le_split (sealL_u8 (commit_u8 a (bodyL a us qs))) (sealL_u8 (commit_u8 a (bodyL a ws rs))) (by rw [sealL_length (hcl _), sealL_length (hcl _)]) s2 4 (by rw [sealL_length (hcl _)]; decide)).1
      rw [commit_mark, commit_mark] at e
      have hdv : W * 2 ^ first / 2 ^ (8 * ((ws.length + 1) * 256)) < 2 ^ (8 * 4) := by
        rw [Nat.div_lt_iff_lt_mul (Nat.pow_pos (by decide)), ← Nat.pow_add]
        refine Nat.lt_of_lt_of_le (Nat.mul_lt_mul_of_pos_right hW (Nat.pow_pos (by decide))) ?_
        rw [← Nat.pow_add]
        exact Nat.pow_le_pow_right (by decide) (by omega)
      rw [Nat.mod_eq_of_lt hdv] at e
      have hge : 1 ≤ W * 2 ^ first / 2 ^ (8 * ((ws.length + 1) * 256)) := by
        rw [Nat.le_div_iff_mul_le (Nat.pow_pos (by decide)), Nat.one_mul]
        exact Nat.le_of_not_lt hK
      generalize W * 2 ^ first / 2 ^ (8 * ((ws.length + 1) * 256)) = V at e hge
      have := congrArg (X.le markL ^^^ ·) e
      simp only [← Nat.xor_assoc, Nat.xor_self, Nat.zero_xor] at this
      omega
end Go.Proofs.Ytpihpabofgmahaa.Pure
