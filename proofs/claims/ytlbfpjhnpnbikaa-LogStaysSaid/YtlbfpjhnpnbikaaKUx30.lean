/- Ux21 Ux22 Ux30: what this claim uses. Laid by slim.py (ours). -/
import Derived.Test.YtlbfpjhnpnbikaaKPLog
import Derived.Test.YtlbfpjhnpnbikaaKUx0
import Derived.Test.YtlbfpjhnpnbikaaKUx1
import Derived.Test.YtlbfpjhnpnbikaaKUx8
import Derived.Test.YtlbfpjhnpnbikaaKUx10
import Derived.Test.YtlbfpjhnpnbikaaKUx11
import Derived.Test.YtlbfpjhnpnbikaaKUx20
import Derived.Test.YtlbfpjhnpnbikaaKPLog3
import Derived.Test.YtlbfpjhnpnbikaaKUx9
import Derived.Test.YtlbfpjhnpnbikaaKUx18
import Derived.Test.YtlbfpjhnpnbikaaKUx29
section
namespace Go.Proofs.Ytlbfpjhnpnbikaa.U
open Go.RowKit Go.Proofs.YtlbfpjhnpnbikaaW.PrintWords Go.Proofs.YtlbfpjhnpnbikaaW.PrintLast Go.Proofs.YtlbfpjhnpnbikaaW.PrintMore
attribute [local go_sem] max2_int min2_int max_two min_two max_three min_three max_four min_four
set_option linter.unusedVariables false
set_option linter.unusedSimpArgs false
theorem log_Format.part (w0 w : World) (L : List X.Res) (p n : Nat) (s : X.DS) (at_ len : Int) (h : X.Lies w0 w (.disk p n s :: L)) (hpl : s.pend.length ≤ 500000000000) :
    Calls Try.prog 29 #[.pointer (some ⟨p, 0, none⟩), .int .i64 at_, .int .i64 len] w fun e w' => e = .returned (.int .i64 (Pure.fmtE n at_ len)) ∧ X.Lies w0 w' (.disk p n (Pure.fmtD n s at_ len) :: L) := by
  have HS := Aside0.mk h
  have HPL := Aside0.mk hpl
  clear h hpl
  go_enter Try.func29, Try.ntmps29
  go_wp2_with fail
  refine (log_area.part w0 w _ p n s at_ len HS.out).mono ?_
  rintro e w' ⟨rfl, rfl⟩
  by_cases hA : Pure.areaB n at_ len = true
  rotate_left
  · rw [show Pure.areaB n at_ len = false from by simpa using hA]
    have HA := Aside0.mk hA
    clear hA
    go_wp2
    go_ret
    rw [show Pure.fmtE n at_ len = 1 from if_neg HA.out, show Pure.fmtD n s at_ len = s from if_neg HA.out]
    exact ⟨rfl, HS.out⟩
  rw [hA]
  have HA := Aside0.mk hA
  have hb := of_decide_eq_true hA
  have hn := (HS.out.disk_ok 0 rfl).n2
  obtain ⟨m, rfl⟩ := Int.eq_ofNat_of_zero_le hb.2.2.1
  have HM : Aside0 (hasB (m : Int) n = true ∧ (m : Int).toNat = m) := ⟨decide_eq_true ⟨by omega, by omega⟩, Int.toNat_natCast m⟩
  clear hb hn hA
  go_wp2_with fail
  refine (log_head.part w0 w _ 1 0 HS.out (by decide)).mono ?_
  rintro e w2 ⟨B, d, rfl, hs⟩
  have HS2 := Aside0.mk (hs.perm [1, 0] 2 (by decide) (by decide))
  clear hs HS
  have HW := Aside0.mk (disk_Write.part w0 w2 _ p n s (m : Int) B d (hdB 1 0) HS2.out (by rw [hdB_length]; exact X.Rd.row 0 rfl) (by rw [hdB_length]; exact (HS2.out.rowC 1 rfl).2.1) (hdB_u8 1 0) (fun ad e _ => (by
    obtain ⟨O, hO⟩ := HS2.out.rowed 1 rfl
    obtain ⟨g, c, e2, -⟩ := Kd.R_form hO (by rw [hdB_length]; decide)
    obtain ⟨rfl, -, -⟩ := Value.slice.inj e2
    cases e
    exact ⟨_, _, rfl⟩)) HPL.out)
  rw [hdB_length] at HW
  go_wp2_with fail
  refine HW.out.mono ?_
  rintro e w3 ⟨rfl, hs⟩
  rw [show putE n (m : Int) 256 = 0 from by unfold putE; rw [if_pos HM.out.1, if_pos rfl]]
  rw [show put s n (m : Int) (hdB 1 0) = s.write m (hdB 1 0) from by unfold put; rw [if_pos ⟨HM.out.1, hdB_length 1 0⟩, HM.out.2]] at hs
  have HS3 := Aside0.mk (hs.perm [0] 2 (by decide) (by decide))
  clear hs HW HS2
  go_wp2_with fail
  refine (disk_Flush.part w0 w3 _ p n _ HS3.out).mono ?_
  rintro e w4 ⟨rfl, hs⟩
  have HS4 := Aside0.mk hs
  clear hs HS3
  go_wp2
  go_ret
  rw [show Pure.fmtE n (m : Int) len = 0 from if_pos HA.out, show Pure.fmtD n s (m : Int) len = (s.write m (hdB 1 0)).flush from if_pos HA.out]
  exact ⟨rfl, HS4.out⟩
end Go.Proofs.Ytlbfpjhnpnbikaa.U
end
section
namespace Go.Proofs.Ytlbfpjhnpnbikaa.U
open Go.RowKit Go.Proofs.YtlbfpjhnpnbikaaW.PrintWords Go.Proofs.YtlbfpjhnpnbikaaW.PrintLast Go.Proofs.YtlbfpjhnpnbikaaW.PrintMore
attribute [local go_sem] max2_int min2_int max_two min_two max_three min_three max_four min_four
set_option linter.unusedVariables false
set_option linter.unusedSimpArgs false
theorem one_write {w0 w : World} {L : List X.Res} {g : Nat} {b : Int} {A : Option Addr} {c : Nat} {xs : List Int} (h : X.Lies w0 w (.box g #[.int .i64 b, .slice A xs.length c] 66 :: .row (Kd.int .u8) 5 (.slice A xs.length c) xs :: L)) : X.Lies w0 w (.ft (fun w' => Kd.C k66 w' (some ⟨g, 0, none⟩) 1 [(⟨b, xs⟩ : S66)]) :: L) := by
  refine X.Lies.freeze (X.Lies.close [_, _] h) (fun w' O S hh => ?_)
  obtain ⟨Of, Sf, g1, -⟩ := hh
  obtain ⟨hb, -⟩ : X.Blk w' g #[.int .i64 b, .slice A xs.length c] 66 ∧ _ := g1 0 _ rfl
  have hr : (Kd.int .u8).R 5 w' 0 (Of 1) (.slice A xs.length c) xs := g1 1 _ rfl
  obtain ⟨-, hc, hC⟩ := Kd.R_reads' hr
  refine ⟨rfl, (show (1 : Nat) ≤ _ by decide), fun _ => ⟨⟨g, 0, none⟩, rfl, fun i x hx => ?_⟩⟩
  obtain rfl : i = 0 := by
    rcases Nat.eq_zero_or_pos i with h | h
    · exact h
    · rw [List.getElem?_eq_none (by simp; omega)] at hx
      cases hx
  obtain rfl : (⟨b, xs⟩ : S66) = x := by simpa using hx
  refine ⟨[.int .i64 b, .slice A xs.length c], rfl, ⟨[.int .i64 b], [.slice A xs.length c], rfl, rfl, A, c, rfl, hc, hC⟩, fun j v hj => ?_⟩
  have h5 := hb.cell j v (by simpa using hj)
  have e : (⟨g, 0, none⟩ : Addr).add (0 * k66.sz + j) = ⟨g, j, none⟩ := by
    rw [add_at, Nat.zero_mul, Nat.zero_add, Nat.zero_add]
  rw [e]
  exact h5
theorem nil_C (w : World) (k : IntKind) : (Kd.int k).C w none 0 [] := ⟨rfl, (show (0 : Nat) ≤ _ by decide), fun h => absurd h (by decide)⟩
def aliveW : List S66 := [⟨9, List.replicate 256 0⟩]
theorem came_alive : Pure.Came 1 aliveW [] := Pure.recB_iff.1 (by decide +kernel)
theorem alive_E : Pure.appE 16 (Pure.newS 0 8) aliveW [] = 0 := by decide +kernel
theorem alive_S : (Pure.appS 16 (Pure.newS 0 8) aliveW []).len - 1 - (Pure.appS 16 (Pure.newS 0 8) aliveW []).used = 4 := by decide +kernel
set_option maxHeartbeats 8000000 in
set_option maxRecDepth 100000 in
theorem undercroftlaw04_alive.yes (w : World) : Calls Try.prog 10 #[] w fun e w' => e = .returned (.bool true) ∧ Below w.heap.size w w' := by
  go_enter Try.func10, Try.ntmps10
  go_wp2_with fail
  refine (disk_New.part w w [] 16 (X.Lies.start w) (by decide) (by decide)).mono ?_
  rintro e w2 ⟨p, rfl, hs⟩
  have HS2 := Aside0.mk hs
  clear hs
  go_wp2_with fail
  refine (log_Format.part w w2 [] p 16 _ 0 8 HS2.out (by decide)).mono ?_
  rintro e w3 ⟨rfl, hs⟩
  have HS3 : Aside0 (X.Lies w w3 [.disk p 16 (Pure.newD 16 0 8)]) := ⟨hs⟩
  rw [show Pure.fmtE 16 0 8 = 0 from by decide]
  clear hs HS2
  go_wp2_with fail
  have ho := Pure.new_opens (n := 16) (st := 0) (ln := 8) (by decide) (by decide) (by decide)
  refine (log_Open.part w w3 [] p 16 _ 0 8 HS3.out).mono ?_
  rintro e w4 ⟨v, rfl, hv⟩
  rcases hv with ⟨h1, -⟩ | ⟨-, g, rfl, hs⟩
  · exact absurd ho.1 h1
  rw [show Pure.opnE 16 (Pure.newD 16 0 8) 0 8 = 0 from ho.1]
  rw [show Pure.opnS (Pure.newD 16 0 8) 0 8 = Pure.newS 0 8 from ho.2] at hs
  have HSO := Aside0.mk (Pure.new_sound (n := 16) (st := 0) (ln := 8) (by decide) (by decide) (by decide))
  have HS4 := Aside0.mk hs.swap
  clear hs ho HS3
  go_wp2_with (first | ((with_reducible refine gate_ (.makeSlice 22 (.const (.int .i64 256)) (.const (.int .i64 256))) rfl ?_); (refine Kd.R_make (Kd.int .u8) (w0 := w4) w4.heap.size 5 rfl rfl 22 (.const (.int .i64 256)) (.const (.int .i64 256)) rfl 256 rfl rfl Try.underlying22 (.int .u8 0) 1 info5 rfl (by decide) (by omega) 0 (ok := fun _ => True) (okp := fun _ => False) rfl (fun _ h => h.elim) trivial (by decide) (by decide) (Below.refl _ _) (Nat.le_refl _) ?_); intro v2 w5 hr2 hb2 hg2 hv2; have HS5 := Aside0.mk (HS4.out.newRow hb2 hr2); obtain ⟨A, c, e1⟩ := Kd.R_slice hr2; subst e1; clear hr2 hb2 hg2 hv2 HS4) | ((with_reducible refine gate_ (.buildSlice 57 1 #[(0, .tmp 32)]) rfl ?_); (refine X.wpList_slice rfl (.tmp 32) rfl _ _ (by rfl) (Pure.sliceW w5 _ rfl) ?_)))
  obtain ⟨gv, hgv⟩ : ∃ gv, gv = w5.heap.size := ⟨_, rfl⟩
  have HS6 : Aside0 (X.Lies w (w5.alloc (.cells #[.int .i64 9, .slice A 256 c] 66)) [.disk p 16 (Pure.newD 16 0 8), Pure.logP g p (Pure.newS 0 8), .ft (fun w' => Kd.C k66 w' (some ⟨gv, 0, none⟩) 1 aliveW)]) := ⟨by
    have h6 := HS5.out.alloc #[.int .i64 9, .slice A 256 c] 66
    rw [← hgv] at h6
    exact (one_write (xs := List.replicate 256 0) h6).perm [1, 2, 0] 3 (by decide) (by decide)⟩
  rw [← hgv]
  clear hgv HS5
  generalize w5.alloc _ = w6 at *
  refine (log_Append.part w w6 [.ft (fun w' => Kd.C k66 w' (some ⟨gv, 0, none⟩) 1 aliveW)] g p 16 (Pure.newD 16 0 8) (Pure.newS 0 8) (some ⟨gv, 0, none⟩) 1 aliveW none 0 [] HS6.out HSO.out.ok (X.Rd.ft 0 rfl) (by decide) (fun w' _ => nil_C w' .i64) (by decide) came_alive (by have := HSO.out.pend; omega) (by have := HSO.out.live; omega)).mono ?_
  rintro e w7 ⟨rfl, hs⟩
  rw [alive_E, show Pure.appQ 16 (Pure.newS 0 8) aliveW [] = 1 from if_pos alive_E]
  obtain ⟨Al, cl, h8, -⟩ := Pure.logP_open hs.swap
  have HS8 := Aside0.mk h8
  have HOK := Aside0.mk (Pure.appS_ok HSO.out.ok came_alive)
  clear hs h8 HS6
  go_wp2_with fail
  refine (log_Room.part w w7 _ g p _ _ HS8.out HOK.out.l1 HOK.out.us).mono ?_
  rintro e w8 ⟨rfl, hs⟩
  rw [alive_S]
  have HB := Aside0.mk hs.below
  clear hs HS8
  go_wp2_with fail
  go_ret
  exact ⟨rfl, HB.out⟩
end Go.Proofs.Ytlbfpjhnpnbikaa.U
end
section
namespace Go.Proofs.Ytlbfpjhnpnbikaa.U
open Go.RowKit Go.Proofs.YtlbfpjhnpnbikaaW.PrintWords Go.Proofs.YtlbfpjhnpnbikaaW.PrintLast Go.Proofs.YtlbfpjhnpnbikaaW.PrintMore
attribute [local go_sem] max2_int min2_int max_two min_two max_three min_three max_four min_four
set_option linter.unusedVariables false
set_option linter.unusedSimpArgs false
def undercroftref01_At.f (k : Nat) (l0 : List Int) (a1 : Int) (a2 : Int) : Option (Int) := if 0 ≤ a1 then (if a1 ≤ (wrap64 (a1 + a2)) then (if (wrap64 (a1 + a2)) ≤ (l0.length : Int) then ((undercroftref01_Number.f k ((l0.take ((wrap64 (a1 + a2)) : Int).toNat).drop (a1 : Int).toNat)).bind fun bt140 => (some (wrap64 (bt140.1)))) else (none)) else (none)) else (none)
theorem undercroftref01_At.mono : ∀ a0 a1 a2 k, LeO (undercroftref01_At.f k a0 a1 a2) (undercroftref01_At.f (k + 1) a0 a1 a2) := by
  intro a0 a1 a2 k
  unfold undercroftref01_At.f
  repeat' first
      | (with_reducible exact undercroftref01_Number.mono _ _)
      | (with_reducible exact LeO.refl _)
      | (with_reducible exact LeO.none _)
      | (with_reducible refine LeO.ite ?_ ?_)
      | (with_reducible refine LeO.bind ?_ (fun _ => ?_))
      | exact undercroftref01_Number.mono _ _
      | exact LeO.none _
      | refine LeO.ite ?_ ?_
      | refine LeO.bind ?_ (fun _ => ?_)
set_option maxHeartbeats 8000000 in
set_option maxRecDepth 100000 in
theorem undercroftref01_At.calls (k : Nat) (A0 : Option Addr) (c0 : Nat) (l0 : List Int) (a1 : Int) (a2 : Int) (r : Int) (w : World) (hr0 : Kd.C (Kd.int .u8) w A0 l0.length l0) (hc0 : l0.length ≤ c0) (h : undercroftref01_At.f k l0 a1 a2 = some r) :
    Calls Try.prog 65 #[.slice A0 l0.length c0, .int .i64 a1, .int .i64 a2] w fun e w' => e = .returned (.int .i64 r) ∧ Drawn0 w w' := by
  have HR0 := Aside0.mk hr0
  have HC0 := Aside0.mk hc0
  clear hr0 hc0
  have H : (if 0 ≤ a1 then (if a1 ≤ (wrap64 (a1 + a2)) then (if (wrap64 (a1 + a2)) ≤ (l0.length : Int) then ((undercroftref01_Number.f k ((l0.take ((wrap64 (a1 + a2)) : Int).toNat).drop (a1 : Int).toNat)).bind fun bt140 => (some (wrap64 (bt140.1)))) else (none)) else (none)) else (none)) = some r := h
  clear h
  by_cases c4 : 0 ≤ a1
  · rw [if_pos c4] at H
    have c4b0 := eq_true c4
    have c4b1 : decide (0 ≤ a1) = true := decide_eq_true c4
    clear c4
    by_cases c5 : a1 ≤ (wrap64 (a1 + a2))
    rotate_left
    · rw [if_neg c5] at H
      exact absurd H (by simp)
    rw [if_pos c5] at H
    have c5b0 := eq_true c5
    have c5b1 : decide (a1 ≤ (wrap64 (a1 + a2))) = true := decide_eq_true c5
    by_cases c6 : (wrap64 (a1 + a2)) ≤ (l0.length : Int)
    rotate_left
    · rw [if_neg c6] at H
      exact absurd H (by simp)
    rw [if_pos c6] at H
    have c6b0 := eq_true c6
    have c6b1 : decide ((wrap64 (a1 + a2)) ≤ (l0.length : Int)) = true := decide_eq_true c6
    replace H := Option.bind_eq_some_iff.mp H
    obtain ⟨⟨t140, t141⟩, A70, H⟩ := H
    replace H : (some (wrap64 (t140))) = some r := H
    have A7 := Aside0.mk A70
    clear A70
    obtain rfl := Option.some.inj H
    obtain ⟨i08, hi08, _, hsz8, _⟩ := info_parts info5
    obtain ⟨A8, hcut8, hA8, hC8⟩ := print_mid_of (P := Try.prog) (Value.int .u8) 0 22 5 .i64 .i64 Try.underlying22 hi08 hsz8 A0 c0 l0 a1 (wrap64 (a1 + a2)) (of_decide_eq_true (by first | (with_reducible assumption) | assumption)) (by first | omega | exact of_decide_eq_true (by first | (with_reducible assumption) | assumption)) (of_decide_eq_true (by first | (with_reducible assumption) | assumption)) HC0.out
    have HR139 := Aside0.mk (Kd.C_of_reads (h1 := fun _ => rfl) (hA8 _ (Kd.reads_of_C HR0.out)))
    have HC139 := Aside0.mk hC8
    clear hA8 hC8 hi08 hsz8
    go_enter Try.func65, Try.ntmps65
    go_wp2_with (first | ((with_reducible refine gate_callee (f := 64) rfl ?_); refine goesL_ (some 16) rfl rfl Try.func64 (by kernel_rfl) rfl #[.slice A8 ((l0.take ((wrap64 (a1 + a2)) : Int).toNat).drop (a1 : Int).toNat).length (c0 - a1.toNat)] rfl (by (try simp only [List.map_toArray, List.map_cons, List.map_nil]); first | done | (rw [show ((l0.take ((wrap64 (a1 + a2)) : Int).toNat).drop (a1 : Int).toNat).length = ((wrap64 (a1 + a2)).toNat - a1.toNat) from (by rw [List.length_drop, List.length_take]; have h_ : ((wrap64 (a1 + a2)) : Int) ≤ (l0.length : Int) := of_decide_eq_true (by first | (with_reducible assumption) | assumption); omega)] <;> rfl) | rfl | (simp only [List.length_drop, List.length_take]; rfl)) ?_; (with_reducible refine (undercroftref01_Number.calls k _ _ ((l0.take ((wrap64 (a1 + a2)) : Int).toNat).drop (a1 : Int).toNat) t140 t141 _ ?side1 ?side2 A7.out).mono ?_); (case side1 => repeat (first | exact HR139.out | (with_reducible refine Kd.C_alloc ?_ _) | (with_reducible refine Kd.C_drewN ?_ _) | (with_reducible refine Kd.C_drew ?_))); (case side2 => exact HC139.out); rintro e w' ⟨rfl, ⟨nd, rfl⟩⟩; refine ⟨_, rfl, ?_⟩))
    go_ret
    exact ⟨by first | rfl | (simp; done) | (simp [*]; done), by repeat (first | exact Drawn0.refl _ | apply Drawn0.step)⟩
  · rw [if_neg c4] at H
    exact absurd H (by simp)
end Go.Proofs.Ytlbfpjhnpnbikaa.U
end
