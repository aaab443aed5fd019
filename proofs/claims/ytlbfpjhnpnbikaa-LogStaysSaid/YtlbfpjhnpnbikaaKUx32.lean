/- Ux32: what this claim uses. Laid by slim.py (ours). -/
import Derived.Test.YtlbfpjhnpnbikaaKPLog3
import Derived.Test.YtlbfpjhnpnbikaaKUx0
import Derived.Test.YtlbfpjhnpnbikaaKUx1
import Derived.Test.YtlbfpjhnpnbikaaKUx23
import Derived.Test.YtlbfpjhnpnbikaaKUx25
import Derived.Test.YtlbfpjhnpnbikaaKUx31
namespace Go.Proofs.Ytlbfpjhnpnbikaa.U
open Go.RowKit Go.Proofs.YtlbfpjhnpnbikaaW.PrintWords Go.Proofs.YtlbfpjhnpnbikaaW.PrintLast Go.Proofs.YtlbfpjhnpnbikaaW.PrintMore
attribute [local go_sem] max2_int min2_int max_two min_two max_three min_three max_four min_four
set_option linter.unusedVariables false
set_option linter.unusedSimpArgs false
set_option maxHeartbeats 8000000 in
theorem undercroftref04_Open.part (w0 w : World) (L : List X.Res) (p n : Nat) (s : X.DS) (at_ len : Int) (h : X.Lies w0 w (.rdisk p n s :: L)) (hpl : s.pend.length ≤ 400000000000) (hgl : s.ghosts.length ≤ 400000000000) :
    Calls Try.prog 16 #[.pointer (some ⟨p, 0, none⟩), .int .i64 at_, .int .i64 len] w fun e w' => ∃ v, e = .returned (.tuple #[v, .int .i64 (Pure.opnE n s at_ len)]) ∧
      ((Pure.opnE n s at_ len ≠ 0 ∧ v = .pointer none ∧ X.Lies w0 w' (.rdisk p n s :: L)) ∨ (Pure.opnE n s at_ len = 0 ∧ ∃ g, v = .pointer (some ⟨g, 0, none⟩) ∧ X.Lies w0 w' (Pure.logR g p (Pure.opnS s at_ len) :: .rdisk p n s :: L))) := by
  have HS := Aside0.mk h
  have HPL := Aside0.mk hpl
  have HGL := Aside0.mk hgl
  have HN : Aside0 (n ≤ 1024) := ⟨(h.rdisk_ok 0 rfl).n2⟩
  clear h hpl hgl
  go_enter Try.func16, Try.ntmps16
  go_wp2_with fail
  refine (undercroftref02_Disk_Size.calls w0 w L p n s HS.out).mono ?_
  rintro e w' ⟨rfl, rfl⟩
  go_wp2_with fail
  refine (Pure.Area_part n at_ len HS.out HN.out).mono ?_
  rintro e w2 ⟨rfl, hs⟩
  have HS2 := Aside0.mk hs
  clear hs HS
  by_cases hA : Pure.areaB n at_ len = true
  rotate_left
  · rw [show Pure.areaB n at_ len = false from by simpa using hA]
    have HE : Aside0 (Pure.opnE n s at_ len = 1) := ⟨if_neg hA⟩
    clear hA
    go_wp2
    go_ret2
    rw [HE.out]
    exact ⟨_, rfl, .inl ⟨by decide, rfl, HS2.out⟩⟩
  rw [hA]
  have hb := of_decide_eq_true hA
  obtain ⟨m, rfl⟩ := Int.eq_ofNat_of_zero_le hb.2.2.1
  obtain ⟨ln, rfl⟩ := Int.eq_ofNat_of_zero_le (show 0 ≤ len by omega)
  have HB : Aside0 (8 ≤ ln ∧ ln ≤ 1024 ∧ m + ln ≤ n) := ⟨by omega⟩
  have HE : Aside0 (Pure.opnE n s (m : Int) (ln : Int) = if Pure.hdOk (s.read m) (ln : Int) = true then 0 else 13) := ⟨if_pos hA⟩
  have HD : Aside0 (Pure.opnS s (m : Int) (ln : Int) = ⟨m, ln, Pure.hdSeq (s.read m), Pure.hdPl (s.read m), []⟩) := ⟨rfl⟩
  have hrd := (HS2.out.rdisk_ok 0 rfl).read (show m < n by omega)
  have HBU := Aside0.mk hrd.2
  have HBL := Aside0.mk hrd.1
  have hrp := undercroftref02_Disk_Read.calls w0 w2 L p n s (m : Int) HS2.out (by have := HPL.out; omega) (by have := HGL.out; omega)
  rw [show hasB (m : Int) n = true from decide_eq_true ⟨by omega, by omega⟩, if_pos rfl, if_pos rfl, Int.toNat_natCast] at hrp
  have HRP := Aside0.mk hrp
  obtain ⟨b, hbe⟩ : ∃ b, b = s.read m := ⟨_, rfl⟩
  rw [← hbe] at HBU HBL HE HD HRP
  clear hb hA hrd hrp hbe
  go_wp2_with fail
  refine HRP.out.mono ?_
  rintro e w3 ⟨v, rfl, hs⟩
  obtain ⟨O, hO⟩ := hs.rowed 0 rfl
  obtain ⟨g, d, rfl, -⟩ := Kd.R_form hO (by rw [HBL.out]; decide)
  rw [HBL.out] at hs ⊢
  have HS3 := Aside0.mk hs
  have hc := hs.rowC 0 rfl
  have HDC := Aside0.mk hc.2.1
  clear hs hO hc HRP HS2
  go_wp2_with fail
  refine (undercroftref04_Read.part w0 w3 _ g d b ln HS3.out (X.Rd.row 0 rfl) HDC.out HBU.out HBL.out ⟨HB.out.1, HB.out.2.1⟩).mono ?_
  rintro e w4 ⟨rfl, hs⟩
  have HS4 := Aside0.mk hs.tail
  clear hs HS3
  by_cases hk : Pure.hdOk b (ln : Int) = true
  rotate_left
  · have HEE : Aside0 (Pure.opnE n s (m : Int) (ln : Int) = 13) := ⟨by rw [HE.out, if_neg hk]⟩
    rw [show Pure.hdOk b (ln : Int) = false from by simpa using hk]
    clear hk HE
    go_wp2_with fail
    go_ret2
    rw [HEE.out]
    exact ⟨_, rfl, .inl ⟨by decide, rfl, HS4.out⟩⟩
  have HEE : Aside0 (Pure.opnE n s (m : Int) (ln : Int) = 0) := ⟨by rw [HE.out, if_pos hk]⟩
  rw [hk]
  clear hk HE
  go_wp2_with fail
  go_ret2
  rw [HEE.out, HD.out]
  refine ⟨_, rfl, .inr ⟨rfl, _, rfl, ?_⟩⟩
  have h7 := (HS4.out.alloc #[.pointer (some ⟨p, 0, none⟩), .int .i64 (m : Int), .int .i64 (ln : Int), .int .u64 (Pure.hdSeq b), .int .i64 (Pure.hdPl b : Int), .slice none 0 0] 45).rnil (d := k60) (e := 60)
  exact Pure.logR_close (s := ⟨m, ln, Pure.hdSeq b, Pure.hdPl b, []⟩) h7.swap
end Go.Proofs.Ytlbfpjhnpnbikaa.U
