/- Ux31: what this claim uses. Laid by slim.py (ours). -/
import Derived.Test.YtpihpabofgmahaaKPRecD
import Derived.Test.YtpihpabofgmahaaKPRecA
import Derived.Test.YtpihpabofgmahaaKUx0
import Derived.Test.YtpihpabofgmahaaKUx7
import Derived.Test.YtpihpabofgmahaaKUx9
import Derived.Test.YtpihpabofgmahaaKUx12
import Derived.Test.YtpihpabofgmahaaKUx14
namespace Go.Proofs.Ytpihpabofgmahaa.U
open Go.RowKit Go.Proofs.YtpihpabofgmahaaW.PrintWords Go.Proofs.YtpihpabofgmahaaW.PrintLast Go.Proofs.YtpihpabofgmahaaW.PrintMore
attribute [local go_sem] max2_int min2_int max_two min_two max_three min_three max_four min_four
set_option linter.unusedVariables false
set_option linter.unusedSimpArgs false
def undercroftlaw03_RecordMarks.f (a : Int) (ws : List S43) (rs : List Int) : Option Bool := if Pure.recB a ws rs = true then some true else none
theorem and1 (i : Nat) (hi : i ≤ 4398046510976) : Go.bits .and .i64 (i : Int) 1 = ((i % 2 : Nat) : Int) := by
  have h : (BitVec.ofInt 64 (i : Int) &&& BitVec.ofInt 64 1).toNat = i % 2 := by
    rw [BitVec.toNat_and, BitVec.toNat_ofInt, show (BitVec.ofInt 64 1).toNat = 2 ^ 1 - 1 from rfl, Nat.and_two_pow_sub_one_eq_mod]
    omega
  show IntKind.i64.wrap ((BitVec.ofInt 64 (i : Int) &&& BitVec.ofInt 64 1).toNat : Int) = _
  rw [h]
  exact IntWalk.i64_in _ (by omega)
theorem lay_ulog (xs : List Int) : X.lay xs 0 (X.nums { data := #[85, 76, 79, 71] }) = [85, 76, 79, 71] ++ xs.drop 4 := by
  have e : X.nums { data := #[85, 76, 79, 71] } = [85, 76, 79, 71] := by decide
  rw [e]
  unfold X.lay
  simp
set_option maxHeartbeats 8000000 in
set_option maxRecDepth 100000 in
theorem undercroftlaw03_RecordMarks.calls (a0_0 : Int) (A0_1 : Option Addr) (c0_1 : Nat) (l0_1 : List S43) (A0_2 : Option Addr) (c0_2 : Nat) (l0_2 : List Int) (r : Bool) (w : World) (hr0_1 : Kd.C k43 w A0_1 l0_1.length l0_1) (hc0_1 : l0_1.length ≤ c0_1) (hr0_2 : Kd.C (Kd.int .i64) w A0_2 l0_2.length l0_2) (hc0_2 : l0_2.length ≤ c0_2) (h : undercroftlaw03_RecordMarks.f a0_0 l0_1 l0_2 = some r) :
    Calls Try.prog 10 #[.agg #[.int .u64 a0_0, .slice A0_1 l0_1.length c0_1, .slice A0_2 l0_2.length c0_2]] w fun e w' => e = .returned (.bool r) ∧ Below w.heap.size w w' := by
  unfold undercroftlaw03_RecordMarks.f at h
  by_cases hok : Pure.recB a0_0 l0_1 l0_2 = true
  rotate_left
  · rw [if_neg hok] at h
    cases h
  rw [if_pos hok] at h
  obtain rfl := Option.some.inj h
  clear h
  have HC := Aside0.mk (Pure.recB_iff.1 hok)
  have HR1 := Aside0.mk hr0_1
  have HR2 := Aside0.mk hr0_2
  have HS0 := Aside0.mk ((X.Lies.start w).alloc #[.int .u64 a0_0, .slice A0_1 l0_1.length c0_1, .slice A0_2 l0_2.length c0_2] 26)
  clear hok hr0_1 hr0_2
  go_enter Try.func10, Try.ntmps10
  go_wp2_with fail
  refine (undercroftlaw03_alive.calls true _ Pure.alive_true rfl).mono ?_
  rintro e w2 ⟨rfl, hb⟩
  have HS2 := Aside0.mk (HS0.out.grow hb)
  clear hb HS0
  obtain ⟨gx, hgx⟩ : ∃ gx, gx = w.heap.size := ⟨_, rfl⟩
  rw [← hgx] at HS2 ⊢
  clear hgx
  go_wp2_with ((with_reducible refine gate_ (.load 26 (.tmp 1)) rfl ?_); (refine wpList_load_mid rfl 26 (.tmp 1) rfl gx 0 rfl [.int .u64 a0_0, .slice A0_1 l0_1.length c0_1, .slice A0_2 l0_2.length c0_2] _ (Pure.blk_range (HS2.out.boxed 0 rfl)) Try.underlying26 rfl Pure.info_txn ?_))
  refine (Pure.Copy_part w w2 _ a0_0 A0_1 c0_1 l0_1 A0_2 c0_2 l0_2 HS2.out (Kd.C_below HR1.out HS2.out.below) hc0_1 (Kd.C_below HR2.out HS2.out.below) hc0_2 HC.out).mono ?_
  rintro e w3 ⟨B1, d1, B2, d2, l, rfl, hl, hs⟩
  have HS3 := Aside0.mk hs
  have HL := Aside0.mk hl
  clear hs hl HS2
  have HS4 := Aside0.mk (HS3.out.alloc #[.int .u64 a0_0, .slice B1 l0_1.length d1, .slice B2 l0_2.length d2] 26)
  clear HS3
  obtain ⟨n, hn⟩ : ∃ n, n = l0_1.length := ⟨_, rfl⟩
  have HN : Aside0 (n = l0_1.length) := ⟨hn⟩
  rw [← hn] at HS4 hc0_1 ⊢
  have HQ0 : Aside0 (l0_1.length = n ∧ n ≤ 4398046510976) := ⟨hn.symm, by have := HC.out.lw; omega⟩
  clear hn
  go_wp2_with fail
  go_loopg [4] n (fun gk v4_ w' => ∃ (i : Nat) (l : List (Int × Value × List Int)) (ws : List S43), v4_ = .int .i64 (i : Int) ∧ Aside0 (gk + i = n) ∧ Aside0 (ws.length = n ∧ Pure.prs ws = l.map fun x => (x.1, x.2.2)) ∧ Aside0 (Pure.Came a0_0 ws l0_2) ∧
    Aside0 (X.Lies w w' [.wown (.slice B1 n d1) l, .box w3.heap.size #[.int .u64 a0_0, .slice B1 n d1, .slice B2 l0_2.length d2] 26, .row (Kd.int .i64) 3 (.slice B2 l0_2.length d2) l0_2, .box gx #[.int .u64 a0_0, .slice A0_1 n c0_1, .slice A0_2 l0_2.length c0_2] 26]))
  case atStart => exact ⟨0, l, l0_1, rfl, ⟨by omega⟩, ⟨HQ0.out.1, HL.out⟩, HC, ⟨HS4.out.perm [1, 0, 2, 3] 4 (by decide) (by decide)⟩⟩
  case round =>
    clear HS4 HL
    obtain ⟨i, l, ws, rfl, HK, HL, HCW, HS⟩ := hrel
    by_cases hlt : i < n
    · have q0 : decide ((i : Int) < (n : Int)) = true := decide_eq_true (by omega)
      have q00 : decide (i < n) = true := decide_eq_true hlt
      have x1_ := (HS.out.boxed 1 rfl).cell 1 _ rfl
      have hand := and1 i (by have := HQ0.out; omega)
      by_cases hev : i % 2 = 0
      · rw [hev] at hand
        obtain ⟨-, -, -, hg⟩ := Pure.wown_S HS.out 0 rfl HL.out.2
        obtain ⟨g, rfl⟩ := hg (by have := HL.out; omega)
        obtain ⟨x, u, hwx, hlx⟩ := Pure.prs_at HL.out.2 (i := i) (by have := HL.out; omega)
        obtain ⟨y0_, y1_, Au, cu, rfl, hcu, hCu⟩ := HS.out.wcell hlx
        have HXU := Aside0.mk (HCW.out.at hwx)
        have HWX := Aside0.mk hwx
        have HLX := Aside0.mk hlx
        have HPP := Aside0.mk (HS.out.wget hlx)
        clear y0_ hwx hlx hg
        by_cases h4 : 4 ≤ x.f1.length
        · have q4 : decide ((x.f1.length : Int) ≥ 4) = true := decide_eq_true (by omega)
          have q44 : decide (4 ≤ x.f1.length) = true := decide_eq_true (by omega)
          obtain ⟨O, hO⟩ := HPP.out.rowed 0 rfl
          obtain ⟨gu, cu', e1, -⟩ := Kd.R_form hO (by omega)
          obtain ⟨rfl, -, rfl⟩ := Value.slice.inj e1
          obtain ⟨ok, hR, hfr, hadd⟩ := HPP.out.grown1
          clear e1 hO hCu
          go_wp2_with ((refine X.copyS_at (P := Try.prog) (w0 := wr) 0 rfl _ _ 29 9 5 rfl Try.underlying29 (by obtain ⟨i, hi, _, hs, _⟩ := info_parts info5; rw [hi]; exact congrArg some hs) gu x.f1.length cu 0 x.f1.length cu { data := #[85, 76, 79, 71] } x.f1 ok rfl rfl hR (by show 4 ≤ _; omega) (by show 0 + 4 ≤ _; omega) (Below.refl 0 wr) (Nat.zero_le _) ?_); intro w7 hr7 hb7 hg7; rw [lay_ulog] at hr7; have HS7 := Aside0.mk (X.Lies.wput (hadd hr7 hg7) HLX.out); clear hr7 hb7 hg7 hadd hR hfr HPP y1_ x1_ HS)
          cases gk with
          | zero => exact absurd HK.out (by omega)
          | succ k1 =>
            go_roundg k1
            case measure => omega
            case rel => exact ⟨i + 1, _, ws.set i ⟨x.f0, [85, 76, 79, 71] ++ x.f1.drop 4⟩, by have := HQ0.out; rw [show wrap64 ((i : Int) + 1) = ((i + 1 : Nat) : Int) from by unfold wrap64; omega], ⟨by have := HK.out; omega⟩, ⟨by rw [List.length_set]; exact HL.out.1, Pure.prs_set HL.out.2 i x.f0 _ _⟩, ⟨HCW.out.set HWX.out (X.u8all_append.2 ⟨by decide, X.u8all_drop HXU.out.1 4⟩) (by have := HXU.out.2; simp; omega)⟩, HS7⟩
        · have q4 : decide ((x.f1.length : Int) ≥ 4) = false := decide_eq_false (by omega)
          have q44 : decide (4 ≤ x.f1.length) = false := decide_eq_false (by omega)
          clear hCu
          go_wp2_with fail
          cases gk with
          | zero => exact absurd HK.out (by omega)
          | succ k1 =>
            go_roundg k1
            case measure => omega
            case rel => exact ⟨i + 1, l, ws, by have := HQ0.out; rw [show wrap64 ((i : Int) + 1) = ((i + 1 : Nat) : Int) from by unfold wrap64; omega], ⟨by have := HK.out; omega⟩, HL, HCW, HS⟩
      · have hod : i % 2 = 1 := by omega
        rw [hod] at hand
        go_wp2_with fail
        cases gk with
        | zero => exact absurd HK.out (by omega)
        | succ k1 =>
          go_roundg k1
          case measure => omega
          case rel => exact ⟨i + 1, l, ws, by have := HQ0.out; rw [show wrap64 ((i : Int) + 1) = ((i + 1 : Nat) : Int) from by unfold wrap64; omega], ⟨by have := HK.out; omega⟩, HL, HCW, HS⟩
    · have q0 : decide ((i : Int) < (n : Int)) = false := decide_eq_false (by omega)
      have q00 : decide (i < n) = false := decide_eq_false hlt
      have x1_ := (HS.out.boxed 1 rfl).cell 1 _ rfl
      obtain ⟨-, hd1, hCw, -⟩ := Pure.wown_S HS.out 0 rfl HL.out.2
      have hCr := HS.out.rowC 2 rfl
      have HSX := HS
      clear HK hlt HR1 HR2
      go_wp2_with ((with_reducible refine gate_ (.load 26 (.tmp 3)) rfl ?_); (refine wpList_load_mid rfl 26 (.tmp 3) rfl w3.heap.size 0 rfl [.int .u64 a0_0, .slice B1 n d1, .slice B2 l0_2.length d2] _ (Pure.blk_range (HSX.out.boxed 1 rfl)) Try.underlying26 rfl Pure.info_txn ?_))
      obtain rfl := HL.out.1
      refine (Pure.Encode_part w wr _ a0_0 B1 d1 ws B2 d2 l0_2 HSX.out hCw hd1 hCr.1 hCr.2.1 HCW.out).mono ?_
      rintro e w4 ⟨B, d, rfl, hs⟩
      have HM := Aside0.mk HL.out.2
      clear hd1 hCw hCr HSX HS HL x1_ hc0_1 hc0_2 HQ0 HN HC
      by_cases hm : mayB ws l0_2 = true
      rotate_left
      · rw [show Pure.encR a0_0 ws l0_2 = [] from if_neg hm, show Pure.encE ws l0_2 = 17 from if_neg hm]
        have HBL := Aside0.mk hs.below
        clear hs hm
        go_wp2
        go_ret
        exact ⟨rfl, HBL.out⟩
      rw [show Pure.encR a0_0 ws l0_2 = encL a0_0 ws l0_2 from if_pos hm] at hs ⊢
      rw [show Pure.encE ws l0_2 = 0 from if_pos hm]
      have HS4 := Aside0.mk hs
      have HMB := Aside0.mk hm
      have HLE := Aside0.mk (Pure.encL_length (seq := a0_0) hm)
      have HLI := Aside0.mk (Pure.encL_le (a := a0_0) hm)
      have HUX := Aside0.mk (Pure.encL_u8 (seq := a0_0) (rs := l0_2) HCW.out.data)
      have HDX : Aside0 (Pure.decOf (encL a0_0 ws l0_2) a0_0 = (a0_0, ws, l0_2, ((ws.length + 2 : Nat) : Int), true)) := ⟨by have := Pure.dec_enc (a := a0_0) hm HCW.out.data []; rwa [List.append_nil] at this⟩
      have HKX : Aside0 (∀ i, i < ws.length + 2 → ((strOfNums (cutL (encL a0_0 ws l0_2) (256 * i) 4)).toList == [85, 76, 79, 71]) = decide (i = 0 ∨ i = ws.length + 1)) := ⟨Pure.enc_marks hm⟩
      obtain ⟨xs, hxs⟩ : ∃ xs, xs = encL a0_0 ws l0_2 := ⟨_, rfl⟩
      rw [← hxs] at HS4 HLE HLI HUX HDX HKX ⊢
      clear hs hm hxs
      obtain ⟨Og, hOg⟩ := HS4.out.rowed 0 rfl
      obtain ⟨-, hd, hCx⟩ := Kd.R_reads' hOg
      obtain ⟨gb, d', e1, -⟩ := Kd.R_form hOg (by have := HLE.out; omega)
      obtain ⟨rfl, -, rfl⟩ := Value.slice.inj e1
      have HD := Aside0.mk hd
      have HCX := Aside0.mk hCx
      clear hOg e1 hd hCx
      go_wp2_with fail
      go_loopg [7, 8] (ws.length + 2) (fun gk v7_ v8_ w' => ∃ (i : Nat), v7_ = .int .i64 (i : Int) ∧ Aside0 (gk + i = ws.length + 2) ∧ w4 = w')
      case atStart => exact ⟨0, rfl, ⟨by omega⟩, rfl⟩
      case round =>
        obtain ⟨i, rfl, HK, rfl⟩ := hrel
        by_cases hlt : i < ws.length + 2
        · by_cases hz : i = 0
          · subst hz
            have hstr := Pure.str_C' (xs := cutL xs 0 4) (c := d) (Pure.sub_C (m := 4) (a := 0) HCX.out HD.out (by have := HLE.out; omega) (by have := HLE.out; omega))
            have q0 : decide (0 < (xs.length : Int)) = true := decide_eq_true (by have := HLE.out; omega)
            have q00 : decide (0 < xs.length) = true := decide_eq_true (by have := HLE.out; omega)
            have q000 : 0 < xs.length := by have := HLE.out; omega
            have q4 : 4 ≤ xs.length := by have := HLE.out; omega
            have q5 : 4 ≤ (d : Int) := by have := HLE.out; have := HD.out; omega
            have hk : ((strOfNums (cutL xs 0 4)).toList == [85, 76, 79, 71]) = _ := HKX.out 0 (by omega)
            rw [show decide (0 = 0 ∨ 0 = ws.length + 1) = true from decide_eq_true (Or.inl rfl)] at hk
            go_wp2_with fail
            cases gk with
            | zero => exact absurd HK.out (by omega)
            | succ k1 =>
              go_roundg k1
              case measure => omega
              case rel => exact ⟨1, by rfl, ⟨by have := HK.out; omega⟩, rfl⟩
          obtain ⟨m, hw0, hm0⟩ : ∃ m : Nat, wrap64 (256 * (i : Int)) = (m : Int) ∧ Aside0 (m = 256 * i) := ⟨256 * i, by have := HLE.out; have := HLI.out; unfold wrap64; omega, ⟨rfl⟩⟩
          obtain ⟨p, hw1, hm1⟩ : ∃ p : Nat, wrap64 ((m : Int) + 4) = (p : Int) ∧ Aside0 (p = m + 4) := ⟨m + 4, by have := HLE.out; have := HLI.out; have := hm0.out; unfold wrap64; omega, ⟨rfl⟩⟩
          have q0 : decide ((m : Int) < (xs.length : Int)) = true := decide_eq_true (by have := HLE.out; have := hm0.out; omega)
          have q00 : decide (m < xs.length) = true := decide_eq_true (by have := HLE.out; have := hm0.out; omega)
          have hcut := Pure.sub_run w4 gb xs.length d m p 4 .i64 .i64 (by have := hm1.out; omega) (by have := HLE.out; have := hm0.out; have := hm1.out; omega) HD.out (by have := HLE.out; have := hm0.out; omega)
          have hstr := Pure.str_C' (xs := cutL xs m 4) (c := d - m) (Pure.sub_C (m := 4) (a := m) HCX.out HD.out (by have := HLE.out; have := hm0.out; have := hm1.out; omega) (by have := HLE.out; have := hm0.out; omega))
          obtain ⟨e, hw3, hw2⟩ : ∃ e : Int, wrap64 (256 * wrap64 ((i : Int) + 1)) = e ∧ Aside0 (e = 256 * ((i : Int) + 1)) := ⟨_, rfl, ⟨by have := HLE.out; have := HLI.out; unfold wrap64; omega⟩⟩
          have z1 : ((i : Int) == 0) = false := beq_eq_false_iff_ne.2 (by omega)
          have z2 : decide ((i : Int) = 0) = false := decide_eq_false (by omega)
          have z3 : decide (i = 0) = false := decide_eq_false (by omega)
          by_cases hl : i = ws.length + 1
          · have y1 : (e == (xs.length : Int)) = true := beq_iff_eq.2 (by have := hw2.out; have := HLE.out; omega)
            have y2 : decide (e = (xs.length : Int)) = true := decide_eq_true (by have := hw2.out; have := HLE.out; omega)
            have hk := HKX.out i hlt
            rw [show decide (i = 0 ∨ i = ws.length + 1) = true from decide_eq_true (Or.inr hl), ← hm0.out] at hk
            have HLT := Aside0.mk hlt
            clear hl hlt hz
            go_wp2_with fail
            cases gk with
            | zero => exact absurd HK.out (by have := HLT.out; omega)
            | succ k1 =>
              go_roundg k1
              case measure => omega
              case rel => exact ⟨i + 1, by have := HLT.out; have := HLE.out; have := HLI.out; rw [show wrap64 ((i : Int) + 1) = ((i + 1 : Nat) : Int) from by unfold wrap64; omega], ⟨by have := HK.out; omega⟩, rfl⟩
          · have y1 : (e == (xs.length : Int)) = false := beq_eq_false_iff_ne.2 (by have := hw2.out; have := HLE.out; omega)
            have y2 : decide (e = (xs.length : Int)) = false := decide_eq_false (by have := hw2.out; have := HLE.out; omega)
            have hk := HKX.out i hlt
            rw [show decide (i = 0 ∨ i = ws.length + 1) = false from decide_eq_false (fun h => h.elim hz hl), ← hm0.out] at hk
            have HLT := Aside0.mk hlt
            clear hl hlt hz
            go_wp2_with fail
            cases gk with
            | zero => exact absurd HK.out (by have := HLT.out; omega)
            | succ k1 =>
              go_roundg k1
              case measure => omega
              case rel => exact ⟨i + 1, by have := HLT.out; have := HLE.out; have := HLI.out; rw [show wrap64 ((i : Int) + 1) = ((i + 1 : Nat) : Int) from by unfold wrap64; omega], ⟨by have := HK.out; omega⟩, rfl⟩
        · obtain ⟨m, hw0, hm0⟩ : ∃ m : Nat, wrap64 (256 * (i : Int)) = (m : Int) ∧ Aside0 (m = 256 * (ws.length + 2)) := ⟨256 * (ws.length + 2), by have := HK.out; have := HLE.out; have := HLI.out; unfold wrap64; omega, ⟨rfl⟩⟩
          have q0 : decide ((m : Int) < (xs.length : Int)) = false := decide_eq_false (by have := HLE.out; have := hm0.out; omega)
          have q00 : decide (m < xs.length) = false := decide_eq_false (by have := HLE.out; have := hm0.out; omega)
          have x0_ := (HS4.out.boxed 2 rfl).cell 0 _ rfl
          have HSX := HS4
          clear HK hlt
          go_wp2_with fail
          refine (Pure.Decode_part w w4 _ (some ⟨gb, 0, none⟩) d xs a0_0 HSX.out HCX.out HD.out HUX.out (by have := HLI.out; omega)).mono ?_
          obtain ⟨N, hN⟩ : ∃ N : Int, N = ((ws.length + 2 : Nat) : Int) := ⟨_, rfl⟩
          rw [HDX.out, ← hN]
          rintro e w5 ⟨C1, e1, C2, e2, l5, rfl, hl5, hs⟩
          have HS5 := Aside0.mk (hs.alloc #[.int .u64 a0_0, .slice C1 ws.length e1, .slice C2 l0_2.length e2] 26)
          have HL5 := Aside0.mk hl5
          have hw5 : wrap64 (256 * N) = (xs.length : Int) := by have := HLE.out; have := HLI.out; unfold wrap64; omega
          clear hs hl5 hN HSX HS4 x0_ hw0 q0 q00
          have x0_ := (HS5.out.boxed 5 rfl).cell 0 _ rfl
          have x1_ := (HS5.out.boxed 5 rfl).cell 1 _ rfl
          have x2_ := (HS5.out.boxed 5 rfl).cell 2 _ rfl
          go_wp2_with fail
          obtain ⟨-, g1, gC1, -⟩ := Pure.wown_S HS5.out 1 rfl HL5.out
          have r1 := HS5.out.rowC 2 rfl
          obtain ⟨-, g2, gC2, -⟩ := Pure.wown_S HS5.out 4 rfl HM.out
          have r2 := HS5.out.rowC 6 rfl
          refine (Pure.Same_part w _ _ a0_0 C1 e1 ws C2 e2 l0_2 a0_0 B1 d1 ws B2 d2 l0_2 HS5.out gC1 g1 r1.1 r1.2.1 gC2 g2 r2.1 r2.2.1 HCW.out.data HCW.out.data).mono ?_
          rintro e w6 ⟨rfl, hs⟩
          have HBL := Aside0.mk hs.below
          clear hs g1 gC1 r1 g2 gC2 r2
          rw [show decide (a0_0 = a0_0 ∧ ws = ws ∧ l0_2 = l0_2) = true from decide_eq_true ⟨rfl, rfl, rfl⟩]
          go_wp2
          go_ret
          exact ⟨rfl, HBL.out⟩
end Go.Proofs.Ytpihpabofgmahaa.U
