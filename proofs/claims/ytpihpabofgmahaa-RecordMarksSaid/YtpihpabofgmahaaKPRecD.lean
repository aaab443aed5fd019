/- PRecD: what this claim uses. Laid by slim.py (ours). -/
import Derived.Test.YtpihpabofgmahaaKUx11
import Derived.Test.YtpihpabofgmahaaKPRec3
import Derived.Test.YtpihpabofgmahaaKPRecP
namespace Go.Proofs.Ytpihpabofgmahaa.Pure
open Go Go.RowKit Go.Proofs.Ytpihpabofgmahaa.U Go.Proofs.YtpihpabofgmahaaW.PrintWords Go.Proofs.YtpihpabofgmahaaW.PrintLast Go.Proofs.YtpihpabofgmahaaW.PrintMore
set_option linter.unusedVariables false
set_option linter.unusedSimpArgs false
theorem Decode_part (w0 w : World) (L : List X.Res) (A : Option Addr) (c : Nat) (xs : List Int) (a : Int) (h : X.Lies w0 w L) (hC : (Kd.int .u8).C w A xs.length xs) (hc : xs.length ≤ c) (hu : X.u8all xs = true) (hm : xs.length ≤ 140737488400000) :
    Calls Try.prog 16 #[.slice A xs.length c, .int .u64 a] w fun e w' => ∃ B1 d1 B2 d2 l, e = .returned (.tuple #[.agg #[.int .u64 (decOf xs a).1, .slice B1 (decOf xs a).2.1.length d1, .slice B2 (decOf xs a).2.2.1.length d2], .int .i64 (decOf xs a).2.2.2.1, .bool (decOf xs a).2.2.2.2]) ∧ (prs (decOf xs a).2.1 = l.map fun x : Int × Value × List Int => (x.1, x.2.2)) ∧ X.Lies w0 w' (.wown (.slice B1 (decOf xs a).2.1.length d1) l :: .row (Kd.int .i64) 3 (.slice B2 (decOf xs a).2.2.1.length d2) (decOf xs a).2.2.1 :: L) := by
  refine (record_Decode.calls A c xs a (decOf xs a).1 (decOf xs a).2.1 (decOf xs a).2.2.1 (decOf xs a).2.2.2.1 (decOf xs a).2.2.2.2 w hC hc (decode_f hu hm a)).mono ?_
  rintro e w' ⟨v1, v2, rfl, hs, hr, hb⟩
  obtain ⟨l, hl, h3⟩ := h.fromSR (f := fun x : S43 => (x.f0, x.f1)) hb hs hr (by decide)
  obtain ⟨B1, d1, rfl, -⟩ := wown_C h3 0 rfl hl
  obtain ⟨B2, d2, rfl⟩ := Kd.R_slice hr
  exact ⟨B1, d1, B2, d2, l, rfl, hl, h3⟩
theorem seal_take {x : List Int} (h : 4 ≤ x.length) : (sealL x).take 4 = x.take 4 := by
  unfold sealL fill252
  rw [List.take_append_of_le_length (by rw [List.length_append]; omega), List.take_append_of_le_length h]
theorem cut0 (l : List Int) (n : Nat) : cutL l 0 n = l.take n := by unfold cutL; rw [List.drop_zero, Nat.zero_add]
theorem enc_marks {a : Int} {ws : List S43} {rs : List Int} (h : mayB ws rs = true) (i : Nat) (hi : i < ws.length + 2) : ((strOfNums (cutL (encL a ws rs) (256 * i) 4)).toList == [85, 76, 79, 71]) = decide (i = 0 ∨ i = ws.length + 1) := by
  obtain ⟨hc, hd, -, -, -⟩ := may_facts h
  have e0 : (sealL (descL a ws rs)).length = 256 := sealL_length (desc_le hc.2)
  have e1 := datas_length hd
  have hm : ((strOfNums ([85, 76, 79, 71] : List Int)).toList == [85, 76, 79, 71]) = true := by decide +kernel
  have hh : ∀ k (q : List Int), (headL k a ++ q).take 4 = [85, 76, 79, 71] := fun k q => rfl
  have e : encL a ws rs = sealL (descL a ws rs) ++ (datasL ws ++ sealL (commitL a (bodyL a ws rs))) := by unfold encL bodyL; rw [List.append_assoc]
  rw [e]
  rcases Nat.eq_zero_or_pos i with rfl | h0
  · rw [show decide (0 = 0 ∨ 0 = ws.length + 1) = true from decide_eq_true (Or.inl rfl), Nat.mul_zero, cut0, List.take_append_of_le_length (by omega), seal_take (by unfold descL startL; simp only [List.length_append, headL_length]; omega)]
    unfold descL startL
    simp only [List.append_assoc]
    rw [hh]
    exact hm
  · have e2 : 256 * i = 256 + 256 * (i - 1) := by omega
    rw [e2, cut_skip _ _ 256 _ _ e0]
    by_cases hl : i = ws.length + 1
    · rw [decide_eq_true (Or.inr hl), show 256 * (i - 1) = 256 * ws.length + 0 from by omega, cut_skip _ _ _ _ _ e1, cut0, seal_take (by rw [commit_length]; decide)]
      unfold commitL
      rw [hh]
      exact hm
    · rw [decide_eq_false (fun h => h.elim (by omega) hl)]
      have hlt : i - 1 < ws.length := by omega
      have e3 := cut_chunk (fun x : S43 => dataL x.f1) 256 (sealL (commitL a (bodyL a ws rs))) ws (fun x hx => dataL_length (hd x hx)) (i - 1) hlt
      have e4 : cutL (datasL ws ++ sealL (commitL a (bodyL a ws rs))) (256 * (i - 1)) 4 = (dataL ws[i - 1].f1).take 4 := by
        rw [← e3]
        unfold datasL cutL
        rw [List.drop_take, List.drop_take, List.take_take, show 256 * (i - 1) + 4 - 256 * (i - 1) = min 4 (256 * (i - 1) + 256 - 256 * (i - 1)) from by omega]
      rw [e4]
      unfold dataL
      by_cases hmk : marked ws[i - 1].f1 = true
      · rw [if_pos hmk]
        exact (by decide +kernel : ((strOfNums ([0, 0, 0, 0] : List Int)).toList == [85, 76, 79, 71]) = false)
      · rw [if_neg hmk]
        unfold marked at hmk
        rw [show (strOfNums markL).toList = ([85, 76, 79, 71] : List UInt8) from by decide +kernel] at hmk
        exact Bool.eq_false_iff.2 hmk
end Go.Proofs.Ytpihpabofgmahaa.Pure
