/- Written by uprint.py (ours) for this seat: functions of the translation as Lean functions, and what their calls do. Not trusted: Lean checks it. -/
import Derived.Test.YtbpkjkdbijifbaaUx0
import Derived.Test.YtbpkjkdbijifbaaUx1
import Derived.Test.YtbpkjkdbijifbaaUx10
import Derived.Test.YtbpkjkdbijifbaaUx18
import Derived.Test.YtbpkjkdbijifbaaUx26
namespace Go.Proofs.Ytbpkjkdbijifbaa.U
open Go.RowKit Go.Proofs.YtbpkjkdbijifbaaW.PrintWords Go.Proofs.YtbpkjkdbijifbaaW.PrintLast Go.Proofs.YtbpkjkdbijifbaaW.PrintMore
attribute [local go_sem] max2_int min2_int max_two min_two max_three min_three max_four min_four   -- for this text's walks alone
set_option linter.unusedVariables false
set_option linter.unusedSimpArgs false

-- GIVEN: function 30 ((*undercroft/undercroftref02.Disk).Image)
set_option maxHeartbeats 4000000 in
set_option maxRecDepth 100000 in
theorem undercroftref02_Disk_Image.calls (w0 w : World) (L : List X.Res) (p n : Nat) (s : X.DS) (h : X.Lies w0 w (.rdisk p n s :: L)) (hpl : s.pend.length ≤ 500000000000) (hgl : s.ghosts.length ≤ 500000000000) :
    Calls Try.prog 30 #[.pointer (some ⟨p, 0, none⟩)] w fun e w' => ∃ v, e = .returned v ∧ X.Lies w0 w' (.row (Kd.int .u8) 5 v (imageTo s n) :: .rdisk p n s :: L) := by
  have hok := h.rdisk_ok 0 rfl
  have hn2 := hok.n2
  have HOK := Aside0.mk hok
  have HS := Aside0.mk (h.newRow (Below.refl _ _) (Kd.R_nil (Kd.int .u8) 5 _ _ _))
  clear h hok
  go_enter Try.func30, Try.ntmps30
  go_wp2_with fail
  go_loopg [3, 4, 5, 6] n (fun gk v3 v4 v5 v6 w' => ∃ i : Nat, v4 = .int .i64 (i : Int) ∧ Aside0 (gk + i = n) ∧ Aside0 (X.Lies w0 w' (.row (Kd.int .u8) 5 v3 (imageTo s i) :: .rdisk p n s :: L)))
  case atStart => exact ⟨0, rfl, ⟨by omega⟩, HS⟩
  case round =>
    clear HS
    obtain ⟨i, rfl, HK, HS⟩ := hrel
    obtain ⟨A3, c3, e3, -, -⟩ := Kd.R_reads (HS.out.rowed 0 rfl).choose_spec
    generalize hl3 : (imageTo s i).length = l3 at e3
    subst e3
    rw [imageTo_length HOK.out i (by have := HK.out; omega)] at hl3
    subst hl3
    have HSZ := Aside0.mk (undercroftref02_Disk_Size.calls w0 wr _ p n s (HS.out.perm [1, 0] 2 (by decide) (by decide)))
    by_cases hlt : i < n
    · have q3 : decide ((i : Int) < (n : Int)) = true := decide_eq_true (by omega)
      have q33 : decide (i < n) = true := decide_eq_true hlt
      have hb : hasB (i : Int) n = true := decide_eq_true ⟨by omega, by omega⟩
      have HBB := Aside0.mk hb
      have HRL := Aside0.mk (HOK.out.read hlt)
      clear hb
      go_wp2_with fail
      refine HSZ.out.mono ?_
      rintro e w' ⟨rfl, rfl⟩
      clear HSZ
      go_wp2_with fail
      refine (undercroftref02_Disk_Read.calls w0 wr _ p n s (i : Int) (HS.out.perm [1, 0] 2 (by decide) (by decide)) hpl hgl).mono ?_
      rintro e w6 ⟨v, rfl, hs⟩
      rw [if_pos HBB.out, Int.toNat_natCast] at hs
      rw [if_pos HBB.out]
      obtain ⟨A5, c5, e5, -, -⟩ := Kd.R_reads (hs.rowed 0 rfl).choose_spec
      rw [HRL.out.1] at e5
      subst e5
      have HC5 := Aside0.mk (hs.rowC 0 rfl).1
      obtain ⟨ok, hR, hfr, hadd⟩ := (hs.perm [2, 1] 3 (by decide) (by decide)).grown1
      have HR5 := Aside0.mk hR
      have HFR := Aside0.mk hfr
      have HAD : Aside0 (∀ v1 w1, (Kd.int .u8).R 5 w1 0 ok v1 (imageTo s i ++ s.read i) → w6.grownBy w1 (Value.slice A3 (256 * i) c3).ownBlock → X.Lies w0 w1 (.row (Kd.int .u8) 5 v1 (imageTo s (i + 1)) :: .rdisk p n s :: L)) := ⟨fun v1 w1 h1 h2 => by rw [imageTo_succ]; exact hadd h1 h2⟩
      have HIL := Aside0.mk (imageTo_length HOK.out i (by omega))
      clear hs hR hfr hadd HS
      go_wp2_with ((with_reducible refine gate_builtin (b := .append) (xs := #[.tmp 19, .tmp 20]) rfl ?_); at_builtin; refine Kd.R_append_row (Value.int .u8) (0 : Int) (w0 := w6) 0 rfl (.tmp 19) (.tmp 20) 22 5 (.int .u8 0) 1 rfl Try.underlying22 info5 rfl (by decide) _ (imageTo s i) (s.read i) A5 256 c5 ok rfl rfl HFR.out HR5.out HC5.out (Below.refl 0 _) (Nat.zero_le _) (by rw [HIL.out]; omega) ?_; intro v7 w7 ho7 hb7 hg7 hat7; have HS7 := Aside0.mk (HAD.out v7 w7 ho7 hg7); clear ho7 hb7 hg7 hat7)
      cases gk with
      | zero => exact absurd HK.out (by omega)
      | succ k1 =>
        go_roundg k1
        case measure => omega
        case rel => exact ⟨i + 1, by go_num, ⟨by have := HK.out; omega⟩, HS7⟩
    · have q3 : decide ((i : Int) < (n : Int)) = false := decide_eq_false (by omega)
      have q33 : decide (i < n) = false := decide_eq_false hlt
      obtain rfl : i = n := by have := HK.out; omega
      clear HK hlt
      go_wp2_with fail
      refine HSZ.out.mono ?_
      rintro e w' ⟨rfl, rfl⟩
      clear HSZ
      go_wp2
      go_ret
      exact ⟨_, rfl, HS.out⟩

end Go.Proofs.Ytbpkjkdbijifbaa.U
