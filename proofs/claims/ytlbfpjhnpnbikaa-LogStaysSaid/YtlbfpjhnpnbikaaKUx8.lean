/- Ux3 Ux8: what this claim uses. Laid by slim.py (ours). -/
import Derived.Test.YtlbfpjhnpnbikaaKPLog
import Derived.Test.YtlbfpjhnpnbikaaKUx0
import Derived.Test.YtlbfpjhnpnbikaaKUx1
import Derived.Test.YtlbfpjhnpnbikaaKUx38
import Derived.Test.YtlbfpjhnpnbikaaKUx4
import Derived.Test.YtlbfpjhnpnbikaaKUx10
section
namespace Go.Proofs.Ytlbfpjhnpnbikaa.U
open Go.RowKit Go.Proofs.YtlbfpjhnpnbikaaW.PrintWords Go.Proofs.YtlbfpjhnpnbikaaW.PrintLast Go.Proofs.YtlbfpjhnpnbikaaW.PrintMore
attribute [local go_sem] max2_int min2_int max_two min_two max_three min_three max_four min_four
set_option linter.unusedVariables false
set_option linter.unusedSimpArgs false
theorem log_area.part (w0 w : World) (L : List X.Res) (p n : Nat) (s : X.DS) (at_ len : Int) (h : X.Lies w0 w (.disk p n s :: L)) :
    Calls Try.prog 40 #[.pointer (some ⟨p, 0, none⟩), .int .i64 at_, .int .i64 len] w fun e w' => e = .returned (.bool (Pure.areaB n at_ len)) ∧ w = w' := by
  have HSZ := Aside0.mk (disk_Size.part w0 w L p n s h)
  have hn := (h.disk_ok 0 rfl).n2
  have HA : Aside0 (Pure.areaB n at_ len = decide (8 ≤ len ∧ len ≤ 1024 ∧ 0 ≤ at_ ∧ at_ ≤ (n : Int) - len)) := ⟨rfl⟩
  clear h
  by_cases h1 : 8 ≤ len
  rotate_left
  · rw [HA.out, decide_eq_false (fun h => h1 h.1)]
    have q1 : decide (8 ≤ len) = false := decide_eq_false h1
    clear h1
    go_enter Try.func40, Try.ntmps40
    go_wp2
    go_ret
    exact ⟨rfl, rfl⟩
  by_cases h2 : len ≤ 1024
  rotate_left
  · rw [HA.out, decide_eq_false (fun h => h2 h.2.1)]
    have q1 : decide (8 ≤ len) = true := decide_eq_true h1
    have q2 : decide (len ≤ 1024) = false := decide_eq_false h2
    clear h1 h2
    go_enter Try.func40, Try.ntmps40
    go_wp2
    go_ret
    exact ⟨rfl, rfl⟩
  by_cases h3 : 0 ≤ at_
  rotate_left
  · rw [HA.out, decide_eq_false (fun h => h3 h.2.2.1)]
    have q1 : decide (8 ≤ len) = true := decide_eq_true h1
    have q2 : decide (len ≤ 1024) = true := decide_eq_true h2
    have q3 : decide (0 ≤ at_) = false := decide_eq_false h3
    clear h1 h2 h3
    go_enter Try.func40, Try.ntmps40
    go_wp2
    go_ret
    exact ⟨rfl, rfl⟩
  have q1 : decide (8 ≤ len) = true := decide_eq_true h1
  have q2 : decide (len ≤ 1024) = true := decide_eq_true h2
  have q3 : decide (0 ≤ at_) = true := decide_eq_true h3
  have hw : wrap64 ((n : Int) - len) = (n : Int) - len := by unfold wrap64; omega
  have he : Aside0 (decide (at_ ≤ (n : Int) - len) = Pure.areaB n at_ len) := ⟨by
    rw [HA.out]
    by_cases h4 : at_ ≤ (n : Int) - len
    · rw [decide_eq_true h4, decide_eq_true ⟨h1, h2, h3, h4⟩]
    · rw [decide_eq_false h4, decide_eq_false (fun h => h4 h.2.2.2)]⟩
  clear h1 h2 h3 HA
  go_enter Try.func40, Try.ntmps40
  go_wp2_with fail
  refine HSZ.out.mono ?_
  rintro e w' ⟨rfl, rfl⟩
  go_wp2
  go_ret
  exact ⟨congrArg (fun b => Ending.returned (Value.bool b)) he.out, rfl⟩
end Go.Proofs.Ytlbfpjhnpnbikaa.U
end
section
namespace Go.Proofs.Ytlbfpjhnpnbikaa.U
open Go.RowKit Go.Proofs.YtlbfpjhnpnbikaaW.PrintWords Go.Proofs.YtlbfpjhnpnbikaaW.PrintLast Go.Proofs.YtlbfpjhnpnbikaaW.PrintMore
attribute [local go_sem] max2_int min2_int max_two min_two max_three min_three max_four min_four
set_option linter.unusedVariables false
set_option linter.unusedSimpArgs false
theorem equal_f (l m : List Int) (hl : X.u8all l = true) (hm : X.u8all m = true) : bytes_Equal.f l m = some (decide (l = m)) := by
  unfold bytes_Equal.f
  by_cases h : l = m
  · rw [decide_eq_true h, h, beq_self_eq_true]
  · rw [decide_eq_false h, beq_eq_false_iff_ne.2 (fun e => h ((Pure.str_inj hl hm).1 e))]
theorem drawn_grow {w0 w w' : World} {L : List X.Res} (h : X.Lies w0 w L) (hd : Drawn0 w w') : X.Lies w0 w' L := by
  obtain ⟨k, rfl⟩ := hd
  exact h.grow (pw_below_drewN (Below.refl _ _) k)
set_option maxHeartbeats 8000000 in
set_option maxRecDepth 100000 in
theorem log_Open.part (w0 w : World) (L : List X.Res) (p n : Nat) (s : X.DS) (at_ len : Int) (h : X.Lies w0 w (.disk p n s :: L)) :
    Calls Try.prog 15 #[.pointer (some ⟨p, 0, none⟩), .int .i64 at_, .int .i64 len] w fun e w' => ∃ v, e = .returned (.tuple #[v, .int .i64 (Pure.opnE n s at_ len)]) ∧
      ((Pure.opnE n s at_ len ≠ 0 ∧ v = .pointer none ∧ X.Lies w0 w' (.disk p n s :: L)) ∨ (Pure.opnE n s at_ len = 0 ∧ ∃ g, v = .pointer (some ⟨g, 0, none⟩) ∧ X.Lies w0 w' (Pure.logP g p (Pure.opnS s at_ len) :: .disk p n s :: L))) := by
  have HS := Aside0.mk h
  clear h
  go_enter Try.func15, Try.ntmps15
  go_wp2_with fail
  refine (log_area.part w0 w _ p n s at_ len HS.out).mono ?_
  rintro e w' ⟨rfl, rfl⟩
  by_cases hA : Pure.areaB n at_ len = true
  rotate_left
  · rw [show Pure.areaB n at_ len = false from by simpa using hA]
    have HE : Aside0 (Pure.opnE n s at_ len = 1) := ⟨if_neg hA⟩
    clear hA
    go_wp2
    go_ret2
    rw [HE.out]
    exact ⟨_, rfl, .inl ⟨by decide, rfl, HS.out⟩⟩
  rw [hA]
  have hb := of_decide_eq_true hA
  have hn := (HS.out.disk_ok 0 rfl).n2
  obtain ⟨m, rfl⟩ := Int.eq_ofNat_of_zero_le hb.2.2.1
  obtain ⟨ln, rfl⟩ := Int.eq_ofNat_of_zero_le (show 0 ≤ len by omega)
  have HB : Aside0 (8 ≤ ln ∧ ln ≤ 1024 ∧ m + ln ≤ n ∧ n ≤ 1024) := ⟨by omega⟩
  have HM : Aside0 (hasB (m : Int) n = true ∧ (m : Int).toNat = m) := ⟨decide_eq_true ⟨by omega, by omega⟩, Int.toNat_natCast m⟩
  have hrd := (HS.out.disk_ok 0 rfl).read (show m < n by omega)
  have HBU := Aside0.mk hrd.2
  have HBL := Aside0.mk hrd.1
  have HE : Aside0 (Pure.opnE n s (m : Int) (ln : Int) = if Pure.hdOk (s.read m) (ln : Int) = true then 0 else 13) := ⟨if_pos hA⟩
  have HD : Aside0 (Pure.opnS s (m : Int) (ln : Int) = ⟨m, ln, Pure.hdSeq (s.read m), Pure.hdPl (s.read m), []⟩) := ⟨rfl⟩
  have hrp := disk_Read.part w0 w L p n s (m : Int) HS.out
  rw [HM.out.1, if_pos rfl, if_pos rfl, HM.out.2] at hrp
  have HRP := Aside0.mk hrp
  obtain ⟨b, hbe⟩ : ∃ b, b = s.read m := ⟨_, rfl⟩
  rw [← hbe] at HBU HBL HE HD HRP
  clear hb hn hA hrd hrp hbe
  go_wp2_with fail
  refine HRP.out.mono ?_
  rintro e w2 ⟨v, rfl, hs⟩
  obtain ⟨O, hO⟩ := hs.rowed 0 rfl
  obtain ⟨g, d, rfl, -⟩ := Kd.R_form hO (by rw [HBL.out]; decide)
  rw [HBL.out] at hs ⊢
  have HS2 := Aside0.mk hs
  have hc := hs.rowC 0 rfl
  have HC2 := Aside0.mk hc.1
  have HDC := Aside0.mk hc.2.1
  have hdc := hc.2.1
  clear hs hO hc HRP HS
  have hl1 : ((b.take 16).drop 8).length = 8 := by rw [List.length_drop, List.length_take]; have := HBL.out; omega
  have hl2 : ((b.take 20).drop 16).length = 4 := by rw [List.length_drop, List.length_take]; have := HBL.out; omega
  have hn1 := crc_Number.calls 9 (some ⟨g, 8, none⟩) (d - 8) ((b.take 16).drop 8) (Pure.num ((b.take 16).drop 8) : Int) true w2 (by
    have := Pure.sub_C (a := 8) (m := 8) HC2.out HDC.out (by decide) (by decide)
    rw [hl1]
    exact this) (by rw [hl1]; omega) (by rw [Pure.number_f _ (X.u8all_drop (X.u8all_take HBU.out 16) 8) 9 (by decide), if_pos (by rw [hl1]; decide)])
  have hn2 := fun w3 (hC : (Kd.int .u8).C w3 (some ⟨g, 0, none⟩) 256 b) => crc_Number.calls 9 (some ⟨g, 16, none⟩) (d - 16) ((b.take 20).drop 16) (Pure.num ((b.take 20).drop 16) : Int) true w3 (by
    have := Pure.sub_C (a := 16) (m := 4) hC HDC.out (by decide) (by decide)
    rw [hl2]
    exact this) (by rw [hl2]; omega) (by rw [Pure.number_f _ (X.u8all_drop (X.u8all_take HBU.out 20) 16) 9 (by decide), if_pos (by rw [hl2]; decide)])
  rw [hl1] at hn1
  rw [hl2] at hn2
  have hsr := Pure.hdSeq_lt HBU.out HBL.out
  have hpr := Pure.hdPl_lt HBU.out HBL.out
  have HOK : Aside0 (Pure.hdOk b (ln : Int) = (decide ((Pure.hdPl b : Int) < (ln : Int) - 1) && decide (hdB (Pure.hdSeq b) (Pure.hdPl b) = b))) := ⟨rfl⟩
  obtain ⟨sq, hsq⟩ : ∃ sq : Int, sq = Pure.hdSeq b := ⟨_, rfl⟩
  obtain ⟨pl, hpl⟩ : ∃ pl : Nat, pl = Pure.hdPl b := ⟨_, rfl⟩
  rw [show (Pure.num ((b.take 16).drop 8) : Int) = sq from hsq.symm] at hn1
  rw [show (Pure.num ((b.take 20).drop 16) : Int) = (pl : Int) from by rw [hpl]; rfl] at hn2
  rw [← hsq] at hsr HOK HD
  rw [← hpl] at hpr HOK HD
  have HN1 := Aside0.mk hn1
  have HN2 := Aside0.mk hn2
  have HSR := Aside0.mk hsr
  have HPR := Aside0.mk hpr
  have hd20 : (20 : Int) ≤ (d : Int) := by omega
  have hd16 : (16 : Int) ≤ (d : Int) := by omega
  clear hn1 hn2 hsr hpr hsq hpl hl1 hl2
  go_wp2_with fail
  refine HN1.out.mono ?_
  rintro e w3 ⟨rfl, hdr⟩
  have HS3 := Aside0.mk (drawn_grow HS2.out hdr)
  clear hdr HN1 HS2 HC2
  go_wp2_with fail
  refine (HN2.out w3 (HS3.out.rowC 0 rfl).1).mono ?_
  rintro e w4 ⟨rfl, hdr⟩
  have HS4 := Aside0.mk (drawn_grow HS3.out hdr)
  clear hdr HN2 HS3
  have hw1 : wrap64 (pl : Int) = (pl : Int) := by have := HPR.out; unfold wrap64; omega
  have hw2 : wrap64 ((ln : Int) - 1) = (ln : Int) - 1 := by have := HB.out; unfold wrap64; omega
  by_cases hlt : (pl : Int) < (ln : Int) - 1
  rotate_left
  · have q1 : decide ((pl : Int) ≥ (ln : Int) - 1) = true := decide_eq_true (by omega)
    have q2 : decide ((ln : Int) - 1 ≤ (pl : Int)) = true := decide_eq_true (by omega)
    have HEE : Aside0 (Pure.opnE n s (m : Int) (ln : Int) = 13) := ⟨by rw [HE.out, HOK.out, decide_eq_false hlt]; rfl⟩
    have HS5 := Aside0.mk HS4.out.tail
    clear hlt HE HS4
    go_wp2_with fail
    go_ret2
    rw [HEE.out]
    exact ⟨_, rfl, .inl ⟨by decide, rfl, HS5.out⟩⟩
  have q1 : decide ((pl : Int) ≥ (ln : Int) - 1) = false := decide_eq_false (by omega)
  have q2 : decide ((ln : Int) - 1 ≤ (pl : Int)) = false := decide_eq_false (by omega)
  have HLT := Aside0.mk hlt
  clear hlt
  go_wp2_with fail
  refine (log_head.part w0 w4 _ sq pl HS4.out (by have := HLT.out; have := HB.out; omega)).mono ?_
  rintro e w5 ⟨B, d5, rfl, hs⟩
  have HS5 := Aside0.mk hs
  have hc5 := hs.rowC 0 rfl
  have hcb := hs.rowC 1 rfl
  have heq := bytes_Equal.calls (some ⟨g, 0, none⟩) d b B d5 (hdB sq pl) (decide (b = hdB sq pl)) w5 (by rw [HBL.out]; exact hcb.1) (by rw [HBL.out]; exact hcb.2.1) (by rw [hdB_length]; exact hc5.1) (by rw [hdB_length]; exact hc5.2.1) (equal_f b (hdB sq pl) HBU.out (hdB_u8 _ _))
  rw [HBL.out, hdB_length] at heq
  have HEQ := Aside0.mk heq
  clear hs HS4 hc5 hcb heq
  go_wp2_with fail
  refine HEQ.out.mono ?_
  rintro e w6 ⟨rfl, hdr⟩
  have HS6 := Aside0.mk (drawn_grow HS5.out hdr).tail.tail
  clear hdr HEQ HS5
  by_cases hbe : b = hdB sq pl
  rotate_left
  · rw [decide_eq_false hbe]
    have HEE : Aside0 (Pure.opnE n s (m : Int) (ln : Int) = 13) := ⟨by rw [HE.out, HOK.out, show decide (hdB sq pl = b) = false from decide_eq_false (fun h => hbe h.symm), Bool.and_false]; rfl⟩
    clear hbe HE
    go_wp2_with fail
    go_ret2
    rw [HEE.out]
    exact ⟨_, rfl, .inl ⟨by decide, rfl, HS6.out⟩⟩
  rw [decide_eq_true hbe]
  have HEE : Aside0 (Pure.opnE n s (m : Int) (ln : Int) = 0) := ⟨by rw [HE.out, HOK.out, decide_eq_true hbe.symm, decide_eq_true HLT.out]; rfl⟩
  clear hbe HE q1 q2
  go_wp2_with fail
  go_ret2
  rw [HEE.out, HD.out]
  refine ⟨_, rfl, .inr ⟨rfl, _, rfl, ?_⟩⟩
  have h7 := (HS6.out.alloc #[.pointer (some ⟨p, 0, none⟩), .int .i64 (m : Int), .int .i64 ((ln : Int) - 1), .int .u64 sq, .int .i64 (pl : Int), .slice none 0 0, .int .i64 0] 93).rnil (d := k60) (e := 60)
  have e1 : ((ln : Int) - 1) = ((ln - 1 : Nat) : Int) := by have := HB.out; omega
  rw [e1] at h7 ⊢
  exact Pure.logP_close (s := ⟨m, ln, sq, pl, []⟩) h7.swap
end Go.Proofs.Ytlbfpjhnpnbikaa.U
end
