/- Ux14: what this claim uses. Laid by slim.py (ours). -/
import Derived.Test.YtlbfpjhnpnbikaaKUx0
import Derived.Test.YtlbfpjhnpnbikaaKUx23
namespace Go.Proofs.Ytlbfpjhnpnbikaa.U
open Go.RowKit Go.Proofs.YtlbfpjhnpnbikaaW.PrintWords Go.Proofs.YtlbfpjhnpnbikaaW.PrintLast Go.Proofs.YtlbfpjhnpnbikaaW.PrintMore
attribute [local go_sem] max2_int min2_int max_two min_two max_three min_three max_four min_four
set_option linter.unusedVariables false
set_option linter.unusedSimpArgs false
def record_may.f (a0 : Int) (l1 : List S66) (l2 : List Int) : Option Bool := if wfSlots l1 l2 = true ∧ l1.length ≤ 9007199254740992 ∧ l2.length ≤ 9007199254740992 then some (mayB l1 l2) else none
set_option maxHeartbeats 2000000 in
set_option maxRecDepth 100000 in
theorem record_may.calls (a0_0 : Int) (A0_1 : Option Addr) (c0_1 : Nat) (l0_1 : List S66) (A0_2 : Option Addr) (c0_2 : Nat) (l0_2 : List Int) (r : Bool) (w : World) (hr0_1 : Kd.C k66 w A0_1 l0_1.length l0_1) (hc0_1 : l0_1.length ≤ c0_1) (hr0_2 : Kd.C (Kd.int .i64) w A0_2 l0_2.length l0_2) (hc0_2 : l0_2.length ≤ c0_2) (h : record_may.f a0_0 l0_1 l0_2 = some r) :
    Calls Try.prog 67 #[.agg #[.int .u64 a0_0, .slice A0_1 l0_1.length c0_1, .slice A0_2 l0_2.length c0_2]] w fun e w' => e = .returned (.bool r) ∧ Below w.heap.size w w' := by
  unfold record_may.f at h
  by_cases hcnd : wfSlots l0_1 l0_2 = true ∧ l0_1.length ≤ 9007199254740992 ∧ l0_2.length ≤ 9007199254740992
  rotate_left
  · rw [if_neg hcnd] at h
    cases h
  rw [if_pos hcnd] at h
  have HRES := Aside0.mk (Option.some.inj h)
  clear h
  obtain ⟨hwf, hb1, hb2⟩ := hcnd
  have HWF := Aside0.mk hwf
  have HR1 := Aside0.mk hr0_1
  have HR2 := Aside0.mk hr0_2
  clear hwf hr0_1 hr0_2 hc0_1 hc0_2
  have hu26 := Try.underlying60
  have hu43 := Try.underlying66
  have hmm := @run_makeMap Try.prog
  have HIFF := Aside0.mk (mayB_iff l0_1 l0_2)
  obtain ⟨n, hn⟩ : ∃ n, n = l0_1.length + l0_2.length := ⟨_, rfl⟩
  by_cases hrange : 1 ≤ n ∧ n ≤ 58
  · obtain ⟨hn1, hn58⟩ := hrange
    have t1 : ((l0_1.length : Int) + (l0_2.length : Int) == 0) = false := beq_eq_false_iff_ne.2 (by omega)
    have t2 : decide (58 < (l0_1.length : Int) + (l0_2.length : Int)) = false := decide_eq_false (by omega)
    have ecast : (l0_1.length : Int) + (l0_2.length : Int) = (n : Int) := by omega
    have HN := Aside0.mk hn
    have EC := Aside0.mk ecast
    clear ecast
    go_enter Try.func67, Try.ntmps67
    go_wp2_with fail
    rw [EC.out]
    have hlen := slots3_length l0_1 l0_2
    rw [← hn] at hlen
    have HL := Aside0.mk hlen
    have hle1 : l0_1.length ≤ n := by omega
    clear hn hlen t1 t2
    go_loopg [27] l0_1.length (fun kq v27 w' => ∃ i : Nat, v27 = .int .i64 (i : Int) ∧ Aside0 (kq + i = l0_1.length) ∧ Aside0 (∀ j, j < i → (l0_1.getD j z66).f1.length = 256) ∧ Aside0 (w'.ownsMap Try.prog 3 (unitElem (H := Unit)) (w.heap.size + 1) i (X.keyset (.agg []) ((slots3 l0_1 l0_2).take i))) ∧ Aside0 (X.Blk w' w.heap.size #[.int .u64 a0_0, .slice A0_1 l0_1.length c0_1, .slice A0_2 l0_2.length c0_2] 60) ∧ Aside0 (Below w.heap.size w w'))
    case atStart =>
      refine ⟨0, rfl, ⟨by omega⟩, ⟨fun j hj => absurd hj (Nat.not_lt_zero _)⟩, ⟨?_⟩, ⟨?_⟩, ⟨?_⟩⟩
      · have := World.ownsMap_made (w.alloc (.cells #[.int .u64 a0_0, .slice A0_1 l0_1.length c0_1, .slice A0_2 l0_2.length c0_2] 60 (0, 0))) Try.prog 3 (unitElem (H := Unit))
        rw [show (w.alloc (.cells #[.int .u64 a0_0, .slice A0_1 l0_1.length c0_1, .slice A0_2 l0_2.length c0_2] 60 (0, 0))).heap.size = w.heap.size + 1 from by simp] at this
        exact this
      · exact (X.Blk.new w #[.int .u64 a0_0, .slice A0_1 l0_1.length c0_1, .slice A0_2 l0_2.length c0_2] 60).below ((Below.refl _ _).alloc (Nat.le_refl _) _) (X.Blk.new w _ _).lt
      · exact ((Below.refl _ _).alloc (Nat.le_refl _) _).alloc (by simp) _
    case round =>
      obtain ⟨i, rfl, HK, HJ, HM, HX, HB⟩ := hrel
      have hi : i ≤ l0_1.length := by have := HK.out; omega
      by_cases hlt : i < l0_1.length
      · have hxw := wfSlots_at HWF.out i
        have hkey := Maps.keyOf_int_mk Try.underlying3 hxw
        have HS := Aside0.mk (take_getD (slots3 l0_1 l0_2) i (by rw [HL.out]; omega))
        have hx := slots3_low l0_1 l0_2 i hlt
        have HC := Kd.C_below HR1.out HB.out
        obtain ⟨ad, A1, c1, e, hf0, hf1, -, -⟩ := at_T66 HC (i : Int) (by omega) (by omega)
        subst e
        have hrd : rd_T66 l0_1 (i : Int) = l0_1.getD i z66 := by unfold rd_T66; rw [Int.toNat_natCast]
        rw [hrd, Int.toNat_natCast] at hf0 hf1
        rw [← hx] at hf0
        have HXV0 : ∃ x, x = (slots3 l0_1 l0_2).getD i 0 := ⟨_, rfl⟩
        obtain ⟨x, hxv⟩ := HXV0
        rw [← hxv] at hf0 hkey hxw
        have HXV := Aside0.mk hxv.symm
        obtain ⟨m, hm⟩ : ∃ m, m = (l0_1.getD i z66).f1.length := ⟨_, rfl⟩
        rw [← hm] at hf1
        have HMM := Aside0.mk hm
        have HHK := Aside0.mk hkey
        clear hxv hx hrd hm hkey HC
        have q0 : decide ((i : Int) < (l0_1.length : Int)) = true := decide_eq_true (by omega)
        have q00 : decide (i < l0_1.length) = true := decide_eq_true hlt
        by_cases hm256 : m = 256
        rotate_left
        · have q3 : ((m : Int) == 256) = false := beq_eq_false_iff_ne.2 (by omega)
          have q4 : ((m : Int) != 256) = true := bne_iff_ne.2 (by omega)
          have HB2 := Aside0.mk (Bool.eq_false_iff.2 (fun h => hm256 (HMM.out.trans ((HIFF.out.1 h).2.1 i hlt))))
          clear hm256
          go_wp2
          go_ret
          exact ⟨congrArg (fun b => Ending.returned (.bool b)) (HB2.out.symm.trans HRES.out), HB.out.alloc HB.out.size _⟩
        subst hm256
        have HS' : Aside0 ((slots3 l0_1 l0_2).take (i + 1) = (slots3 l0_1 l0_2).take i ++ [x]) := ⟨by rw [HS.out, HXV.out]⟩
        go_wp2_with (at_mapUpdate; refine wpList_mapUpdate_own _ rfl _ _ _ 117 rfl 3 118 mapLaw3 Try.underlying117 (unitElem (H := Unit)) (w.heap.size + 1) i _ rfl (HM.out.alloc _) (by unfold maxLen; omega) _ _ _ rfl rfl HHK.out _ [] unitElem_mk ?_; intro w1 hown1 hgrow1; have HM1 := Aside0.mk hown1; have HG1 := Aside0.mk hgrow1; clear hown1 hgrow1)
        cases gk with
        | zero => exact absurd HK.out (by omega)
        | succ k1 =>
        go_roundg k1
        case measure => omega
        case rel =>
          refine ⟨i + 1, by go_num, ⟨by have := HK.out; omega⟩, ⟨fun j hj => ?_⟩, ⟨?_⟩, ⟨?_⟩, ⟨?_⟩⟩
          · by_cases e : j = i
            · rw [e]; exact HMM.out.symm
            · exact HJ.out j (by omega)
          · rw [HS'.out, X.keyset_snoc]
            exact HM1.out
          · have h1 := HG1.out.block w.heap.size (by have := HX.out.lt; simp; omega) (by simp)
            exact h1.trans ((HX.out.below ((Below.refl _ _).alloc (Nat.le_refl _) _) HX.out.lt))
          · exact (HB.out.alloc HB.out.size _).grown HG1.out (by have := HB.out.size; simp; omega) (fun j hj => by cases hj; omega)
      · have hie : i = l0_1.length := by omega
        have HJ1 := Aside0.mk (fun j (hj : j < l0_1.length) => HJ.out j (by omega))
        subst hie
        clear HJ hi HK hlt
        have hL2 := HX.out.cell 2 _ rfl
        go_wp2_with fail
        have hle2 : l0_2.length ≤ n := by have := HN.out; omega
        obtain ⟨wo, hwo⟩ : ∃ wo : World, wo = wr := ⟨_, rfl⟩
        subst hwo
        go_loopg [43] l0_2.length (fun kq v43 w' => ∃ i : Nat, v43 = .int .i64 (i : Int) ∧ Aside0 (kq + i = l0_2.length) ∧ Aside0 (w'.ownsMap Try.prog 3 (unitElem (H := Unit)) (w.heap.size + 1) (l0_1.length + i) (X.keyset (.agg []) ((slots3 l0_1 l0_2).take (l0_1.length + i)))) ∧ Aside0 (Below w.heap.size w w'))
        case atStart => exact ⟨0, rfl, ⟨by omega⟩, HM, HB⟩
        case round =>
          clear HM HB
          obtain ⟨i, rfl, HK, HM, HB⟩ := hrel
          have hi : i ≤ l0_2.length := by have := HK.out; omega
          by_cases hlt : i < l0_2.length
          · have hxw := wfSlots_at HWF.out (l0_1.length + i)
            have hkey := Maps.keyOf_int_mk Try.underlying3 hxw
            have HS := Aside0.mk (take_getD (slots3 l0_1 l0_2) (l0_1.length + i) (by rw [HL.out, HN.out]; omega))
            have hx := slots3_high l0_1 l0_2 (l0_1.length + i) (by omega)
            rw [Nat.add_sub_cancel_left] at hx
            have HC := Kd.C_below HR2.out HB.out
            obtain ⟨ad, e, hf0⟩ := Kd.at_int HC (i : Int) (by omega) (by omega)
            subst e
            have hrd : rd l0_2 (i : Int) = l0_2.getD i 0 := by unfold rd; rw [Int.toNat_natCast]
            rw [hrd, Int.toNat_natCast] at hf0
            rw [← hx] at hf0
            have HXV0 : ∃ x, x = (slots3 l0_1 l0_2).getD (l0_1.length + i) 0 := ⟨_, rfl⟩
            obtain ⟨x, hxv⟩ := HXV0
            rw [← hxv] at hf0 hkey hxw
            have HXV := Aside0.mk hxv.symm
            have HHK := Aside0.mk hkey
            clear hxv hx hrd hkey HC
            have q0 : decide ((i : Int) < (l0_2.length : Int)) = true := decide_eq_true (by omega)
            have q00 : decide (i < l0_2.length) = true := decide_eq_true hlt
            have HS' : Aside0 ((slots3 l0_1 l0_2).take (l0_1.length + i + 1) = (slots3 l0_1 l0_2).take (l0_1.length + i) ++ [x]) := ⟨by rw [HS.out, HXV.out]⟩
            go_wp2_with (at_mapUpdate; refine wpList_mapUpdate_own _ rfl _ _ _ 117 rfl 3 118 mapLaw3 Try.underlying117 (unitElem (H := Unit)) (w.heap.size + 1) (l0_1.length + i) _ rfl HM.out (by unfold maxLen; omega) _ _ _ rfl rfl HHK.out _ [] unitElem_mk ?_; intro w1 hown1 hgrow1; have HM1 := Aside0.mk hown1; have HG1 := Aside0.mk hgrow1; clear hown1 hgrow1)
            cases gk with
            | zero => exact absurd HK.out (by omega)
            | succ k1 =>
            go_roundg k1
            case measure => omega
            case rel =>
              refine ⟨i + 1, by go_num, ⟨by have := HK.out; omega⟩, ⟨?_⟩, ⟨?_⟩⟩
              · rw [← Nat.add_assoc, HS'.out, X.keyset_snoc]
                exact HM1.out
              · exact HB.out.grown HG1.out HB.out.size (fun j hj => by cases hj; omega)
          · have hie : i = l0_2.length := by omega
            subst hie
            have HM2 : Aside0 (wr.ownsMap Try.prog 3 (unitElem (H := Unit)) (w.heap.size + 1) n (X.keyset (.agg []) (slots3 l0_1 l0_2))) := ⟨by
              have := HM.out
              rw [← HN.out, List.take_of_length_le (by rw [HL.out]; exact Nat.le_refl _)] at this
              exact this⟩
            clear HM hi HK hlt
            go_wp2_with (at_range; refine wpList_range_own _ rfl _ 117 rfl 3 118 mapLaw3 Try.underlying117 (unitElem (H := Unit)) (w.heap.size + 1) n _ rfl HM2.out ?_; intro w2 hrg2 hg2 hs2; have HRG := Aside0.mk hrg2; have HB2 := Aside0.mk (HB.out.grown hg2 HB.out.size (fun j hj => by cases hj)); clear hrg2 hg2 hs2)
            go_frame
            have hrsz : w.heap.size ≤ wr.heap.size := HB.out.size
            generalize wr.heap.size = rb at *
            clear HB HM2
            go_loopg [9] (Maps.size (X.keyset (.agg []) (slots3 l0_1 l0_2))) (fun kq v9 w' => ∃ left : Lit → Bool, Aside0 (w'.ranges Try.prog 3 (unitElem (H := Unit)) (w.heap.size + 1) rb n (X.keyset (.agg []) (slots3 l0_1 l0_2)) left kq) ∧ Aside0 (∀ b, b ∈ slots3 l0_1 l0_2 → left (.int .i64 b) = false → 0 ≤ b ∧ b < 1048576) ∧ Aside0 (Below w.heap.size w w'))
            case atStart => exact ⟨_, HRG, ⟨fun b hb hl => by rw [X.keyset_has, decide_eq_false_iff_not] at hl; exact absurd hb hl⟩, HB2⟩
            case round =>
              clear HRG HB2
              obtain ⟨left, HRG, HLF, HB⟩ := hrel
              go_wp2_with (at_next; refine X.next_iu _ rfl _ rfl 3 .i64 mapLaw3 Try.underlying3 (w.heap.size + 1) rb n _ _ _ rfl HRG.out ?_ ?_)
              · intro hl0
                have HL0 := Aside0.mk hl0
                have HOWN := Aside0.mk HRG.out.owns
                clear hl0 HRG
                have HSZ := Aside0.mk (X.keyset_size (.agg []) n (slots3 l0_1 l0_2) HL.out)
                obtain ⟨sz, hsz⟩ : ∃ sz, sz = Maps.size (X.keyset (.agg []) (slots3 l0_1 l0_2)) := ⟨_, rfl⟩
                have HSV := Aside0.mk hsz
                clear hsz
                by_cases hnd : sz = n
                · have HY := Aside0.mk (HIFF.out.2 ⟨by rw [← HN.out]; exact ⟨hn1, hn58⟩, HJ1.out, fun b hb => HLF.out b hb (HL0.out _), HSZ.out.2.1 (by rw [← HSV.out, hnd, HL.out])⟩)
                  have q9 : ((sz : Int) == (n : Int)) = true := by rw [beq_iff_eq, hnd]
                  clear hnd
                  go_wp2_with (at_len; refine wpList_len_own _ rfl _ 117 rfl 3 118 Try.underlying117 (unitElem (H := Unit)) (w.heap.size + 1) n _ rfl HOWN.out ?_; rw [← HSV.out])
                  go_ret
                  exact ⟨congrArg (fun b => Ending.returned (.bool b)) (HY.out.symm.trans HRES.out), HB.out⟩
                · have HY := Aside0.mk (Bool.eq_false_iff.2 (fun h => hnd (by rw [HSV.out, HSZ.out.2.2 (HIFF.out.1 h).2.2.2, HL.out])))
                  have q9 : ((sz : Int) == (n : Int)) = false := by rw [beq_eq_false_iff_ne]; omega
                  clear hnd
                  go_wp2_with (at_len; refine wpList_len_own _ rfl _ 117 rfl 3 118 Try.underlying117 (unitElem (H := Unit)) (w.heap.size + 1) n _ rfl HOWN.out ?_; rw [← HSV.out])
                  go_ret
                  exact ⟨congrArg (fun b => Ending.returned (.bool b)) (HY.out.symm.trans HRES.out), HB.out⟩
              · intro x w1 cnt1 hhas hrg1 hlt1 hg1 hen
                rw [X.keyset_has, decide_eq_true_eq] at hhas
                have HXS := Aside0.mk hhas
                have HRG1 := Aside0.mk hrg1
                have HB1 := Aside0.mk (HB.out.grown hg1 HB.out.size (fun j hj => by cases hj; exact hrsz))
                clear hhas hrg1 hg1 HRG HB
                by_cases hx0 : x < 0
                · have q1 : decide (x < 0) = true := decide_eq_true hx0
                  have HB2 := Aside0.mk (Bool.eq_false_iff.2 (fun h => by have := ((HIFF.out.1 h).2.2.1 x HXS.out).1; omega))
                  clear hx0
                  go_wp2
                  go_ret
                  exact ⟨congrArg (fun b => Ending.returned (.bool b)) (HB2.out.symm.trans HRES.out), HB1.out⟩
                have q1 : decide (x < 0) = false := decide_eq_false hx0
                by_cases hx1 : 1048576 ≤ x
                · have q2 : decide (1048576 ≤ x) = true := decide_eq_true hx1
                  have HB2 := Aside0.mk (Bool.eq_false_iff.2 (fun h => by have := ((HIFF.out.1 h).2.2.1 x HXS.out).2; omega))
                  clear hx0 hx1
                  go_wp2
                  go_ret
                  exact ⟨congrArg (fun b => Ending.returned (.bool b)) (HB2.out.symm.trans HRES.out), HB1.out⟩
                have q2 : decide (1048576 ≤ x) = false := decide_eq_false hx1
                have HXOK := Aside0.mk (show 0 ≤ x ∧ x < 1048576 by omega)
                clear hx0 hx1
                go_wp2
                go_roundg cnt1
                case measure => exact hlt1
                case rel =>
                  refine ⟨_, HRG1, ⟨fun b hb hl => ?_⟩, HB1⟩
                  cases hlb : left (.int .i64 b)
                  · exact HLF.out b hb hlb
                  · rw [hlb, Bool.true_and, Bool.not_eq_false'] at hl
                    have := WideAt.sameKey_eq hl
                    injection this with _ h
                    rw [h]
                    exact HXOK.out
  · have HM := Aside0.mk (mayB_out (ws := l0_1) (rs := l0_2) (by rw [← hn]; exact hrange))
    have hor : n = 0 ∨ 58 < n := by omega
    clear hrange
    rcases hor with h1 | h1
    · have t1 : ((l0_1.length : Int) + (l0_2.length : Int) == 0) = true := by rw [beq_iff_eq]; omega
      clear hn h1
      go_enter Try.func67, Try.ntmps67
      go_wp2
      go_ret
      exact ⟨congrArg (fun b => Ending.returned (.bool b)) (HM.out.symm.trans HRES.out), (Below.refl _ _).alloc (Nat.le_refl _) _⟩
    · have t1 : ((l0_1.length : Int) + (l0_2.length : Int) == 0) = false := beq_eq_false_iff_ne.2 (by omega)
      have t2 : decide (58 < (l0_1.length : Int) + (l0_2.length : Int)) = true := decide_eq_true (by omega)
      clear hn
      go_enter Try.func67, Try.ntmps67
      go_wp2
      go_ret
      exact ⟨congrArg (fun b => Ending.returned (.bool b)) (HM.out.symm.trans HRES.out), (Below.refl _ _).alloc (Nat.le_refl _) _⟩
end Go.Proofs.Ytlbfpjhnpnbikaa.U
