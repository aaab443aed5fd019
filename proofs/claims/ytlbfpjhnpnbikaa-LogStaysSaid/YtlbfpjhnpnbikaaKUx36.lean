/- Ux36: what this claim uses. Laid by slim.py (ours). -/
import Derived.Test.YtlbfpjhnpnbikaaKPLog3
import Derived.Test.YtlbfpjhnpnbikaaKUx0
import Derived.Test.YtlbfpjhnpnbikaaKUx1
import Derived.Test.YtlbfpjhnpnbikaaKUx10
import Derived.Test.YtlbfpjhnpnbikaaKUx11
import Derived.Test.YtlbfpjhnpnbikaaKUx23
import Derived.Test.YtlbfpjhnpnbikaaKUx24
import Derived.Test.YtlbfpjhnpnbikaaKUx35
namespace Go.Proofs.Ytlbfpjhnpnbikaa.U
open Go.RowKit Go.Proofs.YtlbfpjhnpnbikaaW.PrintWords Go.Proofs.YtlbfpjhnpnbikaaW.PrintLast Go.Proofs.YtlbfpjhnpnbikaaW.PrintMore
attribute [local go_sem] max2_int min2_int max_two min_two max_three min_three max_four min_four
set_option linter.unusedVariables false
set_option linter.unusedSimpArgs false
theorem undercroftref04_Format.part (w0 w : World) (L : List X.Res) (p n : Nat) (s : X.DS) (at_ len : Int) (h : X.Lies w0 w (.rdisk p n s :: L)) (hpl : s.pend.length ≤ 400000000000) (hgl : s.ghosts.length ≤ 400000000000) :
    Calls Try.prog 30 #[.pointer (some ⟨p, 0, none⟩), .int .i64 at_, .int .i64 len] w fun e w' => e = .returned (.int .i64 (Pure.fmtE n at_ len)) ∧ X.Lies w0 w' (.rdisk p n (Pure.fmtD n s at_ len) :: L) := by
  have HS := Aside0.mk h
  have HPL := Aside0.mk hpl
  have HGL := Aside0.mk hgl
  have HN : Aside0 (n ≤ 1024) := ⟨(h.rdisk_ok 0 rfl).n2⟩
  clear h hpl hgl
  go_enter Try.func30, Try.ntmps30
  go_wp2_with fail
  refine (undercroftref02_Disk_Size.calls w0 w L p n s HS.out).mono ?_
  rintro e w' ⟨rfl, rfl⟩
  go_wp2_with fail
  refine (Pure.Area_part n at_ len HS.out HN.out).mono ?_
  rintro e w2 ⟨rfl, hs⟩
  have HS2 := Aside0.mk hs
  clear hs HS
  by_cases hA : Pure.areaB n at_ len = true
  rotate_left
  · rw [show Pure.areaB n at_ len = false from by simpa using hA]
    have HA := Aside0.mk hA
    clear hA
    go_wp2
    go_ret
    rw [show Pure.fmtE n at_ len = 1 from if_neg HA.out, show Pure.fmtD n s at_ len = s from if_neg HA.out]
    exact ⟨rfl, HS2.out⟩
  rw [hA]
  have HA := Aside0.mk hA
  have hb := of_decide_eq_true hA
  obtain ⟨m, rfl⟩ := Int.eq_ofNat_of_zero_le hb.2.2.1
  have HM : Aside0 (hasB (m : Int) n = true ∧ (m : Int).toNat = m) := ⟨decide_eq_true ⟨by omega, by omega⟩, Int.toNat_natCast m⟩
  clear hb hA
  go_wp2_with fail
  refine (Pure.refHead_part w0 w2 _ 1 0 HS2.out (by decide)).mono ?_
  rintro e w3 ⟨B, d, rfl, hs⟩
  have HS3 := Aside0.mk hs.swap
  clear hs HS2
  have HW := Aside0.mk (undercroftref02_Disk_Write.calls w0 w3 _ p n s (m : Int) B d (hdB 1 0) HS3.out (by rw [hdB_length]; exact (HS3.out.rowC 1 rfl).1) (by rw [hdB_length]; exact (HS3.out.rowC 1 rfl).2.1) (hdB_u8 1 0) (by have := HPL.out; omega) (by have := HGL.out; omega))
  rw [hdB_length] at HW
  go_wp2_with fail
  refine HW.out.mono ?_
  rintro e w4 ⟨rfl, hs⟩
  rw [show put s n (m : Int) (hdB 1 0) = s.write m (hdB 1 0) from by unfold put; rw [if_pos ⟨HM.out.1, hdB_length 1 0⟩, HM.out.2]] at hs
  have HS4 := Aside0.mk (hs.perm [0] 2 (by decide) (by decide))
  clear hs HW HS3
  go_wp2_with fail
  refine (undercroftref02_Disk_Flush.calls w0 w4 _ p n _ HS4.out (by have := X.DS.write_pend s m (hdB 1 0); have := HPL.out; omega)).mono ?_
  rintro e w5 ⟨rfl, hs⟩
  have HS5 := Aside0.mk hs
  clear hs HS4
  go_wp2
  go_ret
  rw [show Pure.fmtE n (m : Int) len = 0 from if_pos HA.out, show Pure.fmtD n s (m : Int) len = (s.write m (hdB 1 0)).flush from if_pos HA.out]
  exact ⟨rfl, HS5.out⟩
end Go.Proofs.Ytlbfpjhnpnbikaa.U
