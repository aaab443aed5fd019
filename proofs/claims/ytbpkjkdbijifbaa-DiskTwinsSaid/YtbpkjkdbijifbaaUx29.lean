/- Written by uprint.py (ours) for this seat: functions of the translation as Lean functions, and what their calls do. Not trusted: Lean checks it. -/
import Derived.Test.YtbpkjkdbijifbaaUx0
import Derived.Test.YtbpkjkdbijifbaaUx1
import Derived.Test.YtbpkjkdbijifbaaUx2
import Derived.Test.YtbpkjkdbijifbaaUx6
import Derived.Test.YtbpkjkdbijifbaaUx8
import Derived.Test.YtbpkjkdbijifbaaUx10
import Derived.Test.YtbpkjkdbijifbaaUx11
import Derived.Test.YtbpkjkdbijifbaaUx18
import Derived.Test.YtbpkjkdbijifbaaUx25
import Derived.Test.YtbpkjkdbijifbaaUx27
import Derived.Test.YtbpkjkdbijifbaaUx28
namespace Go.Proofs.Ytbpkjkdbijifbaa.U
open Go.RowKit Go.Proofs.YtbpkjkdbijifbaaW.PrintWords Go.Proofs.YtbpkjkdbijifbaaW.PrintLast Go.Proofs.YtbpkjkdbijifbaaW.PrintMore
attribute [local go_sem] max2_int min2_int max_two min_two max_three min_three max_four min_four   -- for this text's walks alone
set_option linter.unusedVariables false
set_option linter.unusedSimpArgs false

/-! ### undercroftlaw02_DiskTwins: function 10 (given) -/
theorem deed_len (n : Nat) (x0 x1 x2 : Int) (x3 : Bool) (x4 : List Int) (s : X.DS) : (deedS n x0 x1 x2 x3 x4 s).pend.length ≤ s.pend.length + 1 ∧ (deedS n x0 x1 x2 x3 x4 s).ghosts.length ≤ s.ghosts.length + 1 := by
  unfold deedS
  split
  · refine ⟨Nat.le_succ_of_le (X.DS.flush_pend s), ?_⟩
    unfold X.DS.flush
    split <;> exact Nat.le_succ _
  · split
    · refine ⟨Nat.le_succ_of_le (X.DS.settle_pend s x4), ?_⟩
      unfold X.DS.settle
      split <;> exact Nat.le_succ _
    · split
      · unfold X.DS.fuse
        split <;> exact ⟨Nat.le_succ _, Nat.le_succ _⟩
      · split
        · exact ⟨Nat.zero_le _, Nat.zero_le _⟩
        · refine ⟨put_pend _ _ _ _, ?_⟩
          unfold put
          split
          · unfold X.DS.write
            split
            · exact Nat.le_of_eq (by rw [List.length_append, List.length_singleton])
            · exact Nat.le_succ _
          · exact Nat.le_succ _
/-- Deeds of a size that memory can hold. -/
def okD (l : List S24) : Bool := l.all fun x => decide (x.f1 ≤ 9223372036854775807) && decide (x.f4.length ≤ 140737488351232)
theorem okD_at {l0 : List S24} (h : okD l0 = true) (i : Nat) (hi : i < (l0.take 40).length) : (rd_T24 (l0.take 40) (i : Int)).f1 ≤ 9223372036854775807 ∧ (rd_T24 (l0.take 40) (i : Int)).f4.length ≤ 140737488351232 := by
  have hm : rd_T24 (l0.take 40) (i : Int) ∈ l0 := by
    unfold rd_T24
    rw [Int.toNat_natCast, List.getD_eq_getElem?_getD, List.getElem?_eq_getElem hi]
    exact List.mem_of_mem_take (List.getElem_mem hi)
  have := List.all_eq_true.1 h _ hm
  simp only [Bool.and_eq_true, decide_eq_true_eq] at this
  exact this
def undercroftlaw02_DiskTwins.f (l0 l1 : List S24) : Option Bool := if (okD l0 && okD l1) = true then some true else none
set_option maxHeartbeats 8000000 in
set_option maxRecDepth 100000 in
theorem undercroftlaw02_DiskTwins.calls (A0 : Option Addr) (c0 : Nat) (l0 : List S24) (A1 : Option Addr) (c1 : Nat) (l1 : List S24) (r : Bool) (w : World)
    (hr0 : Kd.C k24 w A0 l0.length l0) (hc0 : l0.length ≤ c0) (hr1 : Kd.C k24 w A1 l1.length l1) (hc1 : l1.length ≤ c1) (h : undercroftlaw02_DiskTwins.f l0 l1 = some r) :
    Calls Try.prog 10 #[.slice A0 l0.length c0, .slice A1 l1.length c1] w fun e w' => e = .returned (.bool r) ∧ Below w.heap.size w w' := by
  unfold undercroftlaw02_DiskTwins.f at h
  by_cases hok : (okD l0 && okD l1) = true
  rotate_left
  · rw [if_neg hok] at h
    cases h
  rw [if_pos hok] at h
  obtain rfl := Option.some.inj h
  rw [Bool.and_eq_true] at hok
  clear h
  have HR0 := Aside0.mk hr0
  have HC0 := Aside0.mk hc0
  have HR1 := Aside0.mk hr1
  have HC1 := Aside0.mk hc1
  have HOK0 := Aside0.mk hok.1
  have HOK1 := Aside0.mk hok.2
  clear hr0 hc0 hr1 hc1 hok
  go_enter Try.func10, Try.ntmps10
  go_wp2_with fail
  refine (undercroftlaw02_alive.calls true w rfl).mono ?_
  rintro e w2 ⟨rfl, hb1⟩
  have HS2 := Aside0.mk ((X.Lies.start w).grow hb1)
  clear hb1
  go_wp2_with fail
  refine (disk_New.part w w2 _ 3 HS2.out (by decide) (by decide)).mono ?_
  rintro e w3 ⟨p, rfl, hs⟩
  have HS3 := Aside0.mk hs
  clear hs HS2
  go_wp2_with fail
  refine (undercroftref02_New.calls w w3 _ 3 HS3.out (by decide) (by decide)).mono ?_
  rintro e w4 ⟨q, rfl, hs⟩
  have HS4 : Aside0 (X.Lies w w4 [.disk p 3 (X.DS.new (List.replicate (256 * 3) 0)), .rdisk q 3 (X.DS.new (List.replicate (256 * 3) 0))]) := ⟨hs.perm [1, 0] 2 (by decide) (by decide)⟩
  clear hs HS3
  go_wp2_with fail
  refine (undercroftlaw02_few.calls A0 c0 l0 w4 HC0.out).mono ?_
  rintro e w' ⟨rfl, rfl⟩
  have HOL : Aside0 (∀ i, i < (l0.take 40).length → _) := ⟨okD_at HOK0.out⟩
  obtain ⟨l, hl⟩ : ∃ l, l = l0.take 40 := ⟨_, rfl⟩
  rw [← hl] at HOL ⊢
  have HL : Aside0 (∀ w', Below w.heap.size w w' → Kd.C k24 w' A0 l.length l) := ⟨fun w' hb => by rw [hl]; exact take40 (Kd.C_below HR0.out hb)⟩
  have HLL : Aside0 (l.length ≤ 40 ∧ l.length ≤ c0) := ⟨by rw [hl, List.length_take]; have := HC0.out; omega⟩
  clear hl HR0 HC0 HOK0
  go_wp2_with fail
  go_loopg [10] l.length (fun gk v10_ w' => ∃ (i : Nat) (s : X.DS), v10_ = .int .i64 (i : Int) ∧ Aside0 (gk + i = l.length) ∧ Aside0 (s.pend.length ≤ 0 + i ∧ s.ghosts.length ≤ 0 + i) ∧ Aside0 (X.Lies w w' [.disk p 3 s, .rdisk q 3 s]))
  case atStart => exact ⟨0, _, rfl, ⟨by omega⟩, ⟨Nat.le_refl _, Nat.le_refl _⟩, HS4⟩
  case round =>
    clear HS4
    obtain ⟨i, s, rfl, HK, HPL, HS⟩ := hrel
    by_cases hlt : i < l.length
    · have q0 : decide ((i : Int) < (l.length : Int)) = true := decide_eq_true (by omega)
      have q00 : decide (i < l.length) = true := decide_eq_true hlt
      obtain ⟨g, o, A4, c4, rfl, hrg, hc4, hC4⟩ := deed_at (HL.out w (Below.refl _ _)) i hlt
      have hbd := HOL.out i hlt
      obtain ⟨x0, hx0⟩ : ∃ x, x = (rd_T24 l (i : Int)).f0 := ⟨_, rfl⟩
      obtain ⟨x1, hx1⟩ : ∃ x, x = (rd_T24 l (i : Int)).f1 := ⟨_, rfl⟩
      obtain ⟨x2, hx2⟩ : ∃ x, x = (rd_T24 l (i : Int)).f2 := ⟨_, rfl⟩
      obtain ⟨x3, hx3⟩ : ∃ x, x = (rd_T24 l (i : Int)).f3 := ⟨_, rfl⟩
      obtain ⟨x4, hx4⟩ : ∃ x, x = (rd_T24 l (i : Int)).f4 := ⟨_, rfl⟩
      rw [← hx0, ← hx1, ← hx2, ← hx3, ← hx4] at hrg
      rw [← hx4] at hc4 hC4 hbd
      rw [← hx1] at hbd
      clear hx0 hx1 hx2 hx3 hx4
      have HRG := Aside0.mk (range_below hrg HS.out.below)
      have HBO := Aside0.mk (undercroftlaw02_both.calls w wr _ p q 3 s x0 x1 x2 x3 A4 c4 x4 HS.out (X.Rd.arg hC4) hc4 hbd.1 hbd.2 (by have := HPL.out; have := HLL.out; omega) (by have := HPL.out; have := HLL.out; omega))
      have HDL := Aside0.mk (deed_len 3 x0 x1 x2 x3 x4 s)
      clear hrg hc4 hC4 hbd
      go_wp2_with ((with_reducible refine gate_ (.load 24 (.tmp 42)) rfl ?_); (refine wpList_load_mid rfl 24 (.tmp 42) rfl g (o + i * 5) rfl _ _ HRG.out Try.underlying24 rfl info_deed ?_))
      refine HBO.out.mono ?_
      rintro e w6 ⟨rfl, hs⟩
      have HS6 : Aside0 (X.Lies w w6 [.disk p 3 (deedS 3 x0 x1 x2 x3 x4 s), .rdisk q 3 (deedS 3 x0 x1 x2 x3 x4 s)]) := ⟨hs⟩
      clear hs HS HBO HRG
      go_wp2_with fail
      cases gk with
      | zero => exact absurd HK.out (by omega)
      | succ k1 =>
        go_roundg k1
        case measure => omega
        case rel => exact ⟨i + 1, _, by have := HLL.out; rw [show wrap64 ((i : Int) + 1) = ((i + 1 : Nat) : Int) from by unfold wrap64; omega], ⟨by have := HK.out; omega⟩, ⟨by have := HPL.out; have := HDL.out; omega⟩, HS6⟩
    · have q0 : decide ((i : Int) < (l.length : Int)) = false := decide_eq_false (by omega)
      have q00 : decide (i < l.length) = false := decide_eq_false hlt
      have HPG0 : Aside0 (s.pend.length ≤ 40 + 0 ∧ s.ghosts.length ≤ 40 + 0) := ⟨by have := HPL.out; have := HLL.out; have := HK.out; omega⟩
      clear HK HPL
      go_wp2_with fail
      refine (disk_Copy.part w wr _ p 3 s HS.out (by have := HPG0.out; omega)).mono ?_
      rintro e w7 ⟨pc, rfl, hs⟩
      have HS7 : Aside0 (X.Lies w w7 [.disk pc 3 s, .rdisk q 3 s]) := ⟨hs.perm [0, 2] 3 (by decide) (by decide)⟩
      clear hs HS HL HOL HLL
      go_wp2_with fail
      refine (undercroftlaw02_few.calls A1 c1 l1 w7 HC1.out).mono ?_
      rintro e w' ⟨rfl, rfl⟩
      have HOM : Aside0 (∀ i, i < (l1.take 40).length → _) := ⟨okD_at HOK1.out⟩
      obtain ⟨m, hm⟩ : ∃ m, m = l1.take 40 := ⟨_, rfl⟩
      rw [← hm] at HOM ⊢
      have HM : Aside0 (∀ w', Below w.heap.size w w' → Kd.C k24 w' A1 m.length m) := ⟨fun w' hb => by rw [hm]; exact take40 (Kd.C_below HR1.out hb)⟩
      have HMM : Aside0 (m.length ≤ 40 ∧ m.length ≤ c1) := ⟨by rw [hm, List.length_take]; have := HC1.out; omega⟩
      clear hm HR1 HC1 HOK1
      go_wp2_with fail
      go_loopg [13] m.length (fun gk v10_ w' => ∃ (i : Nat) (s : X.DS), v10_ = .int .i64 (i : Int) ∧ Aside0 (gk + i = m.length) ∧ Aside0 (s.pend.length ≤ 40 + i ∧ s.ghosts.length ≤ 40 + i) ∧ Aside0 (X.Lies w w' [.disk pc 3 s, .rdisk q 3 s]))
      case atStart => exact ⟨0, s, rfl, ⟨by omega⟩, HPG0, HS7⟩
      case round =>
        clear HS7 HPG0
        obtain ⟨i, s, rfl, HK, HPL, HS⟩ := hrel
        by_cases hlt : i < m.length
        · have q0 : decide ((i : Int) < (m.length : Int)) = true := decide_eq_true (by omega)
          have q00 : decide (i < m.length) = true := decide_eq_true hlt
          obtain ⟨g, o, A4, c4, rfl, hrg, hc4, hC4⟩ := deed_at (HM.out w (Below.refl _ _)) i hlt
          have hbd := HOM.out i hlt
          obtain ⟨x0, hx0⟩ : ∃ x, x = (rd_T24 m (i : Int)).f0 := ⟨_, rfl⟩
          obtain ⟨x1, hx1⟩ : ∃ x, x = (rd_T24 m (i : Int)).f1 := ⟨_, rfl⟩
          obtain ⟨x2, hx2⟩ : ∃ x, x = (rd_T24 m (i : Int)).f2 := ⟨_, rfl⟩
          obtain ⟨x3, hx3⟩ : ∃ x, x = (rd_T24 m (i : Int)).f3 := ⟨_, rfl⟩
          obtain ⟨x4, hx4⟩ : ∃ x, x = (rd_T24 m (i : Int)).f4 := ⟨_, rfl⟩
          rw [← hx0, ← hx1, ← hx2, ← hx3, ← hx4] at hrg
          rw [← hx4] at hc4 hC4 hbd
          rw [← hx1] at hbd
          clear hx0 hx1 hx2 hx3 hx4
          have HRG := Aside0.mk (range_below hrg HS.out.below)
          have HBO := Aside0.mk (undercroftlaw02_both.calls w wr _ pc q 3 s x0 x1 x2 x3 A4 c4 x4 HS.out (X.Rd.arg hC4) hc4 hbd.1 hbd.2 (by have := HPL.out; have := HMM.out; omega) (by have := HPL.out; have := HMM.out; omega))
          have HDL := Aside0.mk (deed_len 3 x0 x1 x2 x3 x4 s)
          clear hrg hc4 hC4 hbd
          go_wp2_with ((with_reducible refine gate_ (.load 24 (.tmp 62)) rfl ?_); (refine wpList_load_mid rfl 24 (.tmp 62) rfl g (o + i * 5) rfl _ _ HRG.out Try.underlying24 rfl info_deed ?_))
          refine HBO.out.mono ?_
          rintro e w6 ⟨rfl, hs⟩
          have HS6 : Aside0 (X.Lies w w6 [.disk pc 3 (deedS 3 x0 x1 x2 x3 x4 s), .rdisk q 3 (deedS 3 x0 x1 x2 x3 x4 s)]) := ⟨hs⟩
          clear hs HS HBO HRG
          go_wp2_with fail
          cases gk with
          | zero => exact absurd HK.out (by omega)
          | succ k1 =>
            go_roundg k1
            case measure => omega
            case rel => exact ⟨i + 1, _, by have := HMM.out; rw [show wrap64 ((i : Int) + 1) = ((i + 1 : Nat) : Int) from by unfold wrap64; omega], ⟨by have := HK.out; omega⟩, ⟨by have := HPL.out; have := HDL.out; omega⟩, HS6⟩
        · have q0 : decide ((i : Int) < (m.length : Int)) = false := decide_eq_false (by omega)
          have q00 : decide (i < m.length) = false := decide_eq_false hlt
          have HPG0 : Aside0 (s.pend.length ≤ 40 + 40 ∧ s.ghosts.length ≤ 40 + 40) := ⟨by have := HPL.out; have := HMM.out; have := HK.out; omega⟩
          clear HK HPL
          have HPG : Aside0 (s.pend.length ≤ 500000000000 ∧ s.ghosts.length ≤ 500000000000) := ⟨by have := HPG0.out; omega⟩
          have HS5 := HS
          clear HS HPG0
          go_wp2_with fail
          refine start_ (n := 29) (S := (fun _ => True)) (ds := []) #[false, false, false, false, false, false, false, false, false, false, false, false, false, false, false, false, false, false, false, false, false, false, false, false, false, false, false, false, false] (by kernel_rfl) rfl rfl trivial (fun hHeld => ?_)
          have HSi := Aside0.mk (HS5.out.drew)
          generalize World.drew _ = wi at *
          clear HS5
          refine pure_ (i := 0) (N := some 66) (v := ?_) (a' := ?_) #[true, false, false, false, false, false, false, false, false, false, false, false, false, false, false, false, false, false, false, false, false, false, false, false, false, false, false, false, false] rfl rfl (by kernel_rfl) (fun _ _ _ h => h) (Or.inl ⟨by rfl, ?_⟩) ?_ ?_
          rotate_left
          · intro w' 
            go_simp
            with_reducible rfl
          rotate_left
          · simp only [Act.put, List.setIfInBounds_toArray, List.set_cons_zero, List.set_cons_succ, i64_w, i32_w]
            rfl
          refine pure_ (i := 3) (N := some 69) (v := ?_) (a' := ?_) #[true, false, false, true, false, false, false, false, false, false, false, false, false, false, false, false, false, false, false, false, false, false, false, false, false, false, false, false, false] rfl rfl (by kernel_rfl) (fun _ _ _ h => h) (Or.inl ⟨by rfl, ?_⟩) ?_ ?_
          rotate_left
          · intro w' 
            go_simp
            with_reducible rfl
          rotate_left
          · simp only [Act.put, List.setIfInBounds_toArray, List.set_cons_zero, List.set_cons_succ, i64_w, i32_w]
            rfl
          refine one_ (i := 1) (N := some 67) #[true, true, false, true, false, false, false, false, false, false, false, false, false, false, false, false, false, false, false, false, false, false, false, false, false, false, false, false, false] rfl rfl (by kernel_rfl) (by decide) (fun K hK => ?_)
          refine goes_ Try.func19 (by kernel_rfl) rfl #[.pointer (some ⟨pc, 0, none⟩)] (by rfl) rfl rfl (by (try simp only [List.map_toArray, List.map_cons, List.map_nil]); first | done | rfl) ?_
          refine (disk_Image.part w wi _ pc 3 s HSi.out).mono ?_
          rintro e wj ⟨v, rfl, hs⟩
          obtain ⟨A7, c7, rfl, -, -⟩ := row_str hs 0 rfl
          have HSj := Aside0.mk hs
          refine ⟨_, rfl, ?_⟩
          clear hs HSi
          refine hK.out _ _ trivial (fun hHeld => ?_)
          clear hK K
          refine norm_ (a' := ?_) ?_ ?_
          rotate_left
          · show Act.put _ (some 67) _ = _
            simp only [Act.put, List.setIfInBounds_toArray, List.set_cons_zero, List.set_cons_succ, i64_w, i32_w]
            rfl
          refine X.more_ (fun w' => (convert 22 9 (.slice A7 (imageTo s 3).length c7)).run Try.prog w' = .ok (.string (strOfNums (imageTo s 3))) w') (row_conv HSj.out 0 rfl) (fun _ _ => trivial) (fun hHeld => ?_)
          refine take_ (i := 2) (N := some 68) (v := .string (strOfNums (imageTo s 3))) (a' := ?_) #[true, true, true, true, false, false, false, false, false, false, false, false, false, false, false, false, false, false, false, false, false, false, false, false, false, false, false, false, false] rfl rfl (by kernel_rfl) (fun _ _ _ h => h) (Or.inl ⟨by rfl, ?_⟩) hHeld ?_ ?_
          · intro w' hs_
            exact conv_exec _ (by rfl) _ _ (by rfl) hs_
          rotate_left
          · simp only [Act.put, List.setIfInBounds_toArray, List.set_cons_zero, List.set_cons_succ, i64_w, i32_w]
            rfl
          refine one_ (i := 4) (N := some 70) #[true, true, true, true, true, false, false, false, false, false, false, false, false, false, false, false, false, false, false, false, false, false, false, false, false, false, false, false, false] rfl rfl (by kernel_rfl) (by decide) (fun K hK => ?_)
          refine goes_ Try.func30 (by kernel_rfl) rfl #[.pointer (some ⟨q, 0, none⟩)] (by rfl) rfl rfl (by (try simp only [List.map_toArray, List.map_cons, List.map_nil]); first | done | rfl) ?_
          refine (undercroftref02_Disk_Image.calls w wj _ q 3 s (HSj.out.perm [2, 1, 0] 3 (by decide) (by decide)) HPG.out.1 HPG.out.2).mono ?_
          rintro e wk ⟨v, rfl, hs⟩
          obtain ⟨A8, c8, rfl, -, -⟩ := row_str hs 0 rfl
          have hk := row_conv hs 0 rfl
          have hk7 := row_conv hs 3 rfl
          have HSk := Aside0.mk (hs.perm [1, 2, 0, 3] 4 (by decide) (by decide))
          refine ⟨_, rfl, ?_⟩
          clear hs HSj hHeld
          refine hK.out _ _ hk7 (fun hHeld => ?_)
          clear hK K
          refine norm_ (a' := ?_) ?_ ?_
          rotate_left
          · show Act.put _ (some 70) _ = _
            simp only [Act.put, List.setIfInBounds_toArray, List.set_cons_zero, List.set_cons_succ, i64_w, i32_w]
            rfl
          refine one_ (i := 5) (N := some 71) #[true, true, true, true, true, true, false, false, false, false, false, false, false, false, false, false, false, false, false, false, false, false, false, false, false, false, false, false, false] rfl rfl (by kernel_rfl) (by decide) (fun K hK => ?_)
          refine X.val_ (by rfl) rfl (conv_exec _ (by rfl) _ _ (by rfl) hk) ?_
          refine hK.out _ _ hk7 (fun hHeld => ?_)
          clear hK K
          refine norm_ (a' := ?_) ?_ ?_
          rotate_left
          · show Act.put _ (some 71) _ = _
            simp only [Act.put, List.setIfInBounds_toArray, List.set_cons_zero, List.set_cons_succ, i64_w, i32_w]
            rfl
          refine pure_ (i := 6) (N := some 72) (v := .bool true) (a' := ?_) #[true, true, true, true, true, true, true, false, false, false, false, false, false, false, false, false, false, false, false, false, false, false, false, false, false, false, false, false, false] rfl rfl (by kernel_rfl) (fun _ _ _ h => h) (Or.inl ⟨by rfl, ?_⟩) ?_ ?_
          · intro w' 
            exact (by go_simp; done)
          rotate_left
          · simp only [Act.put, List.setIfInBounds_toArray, List.set_cons_zero, List.set_cons_succ, i64_w, i32_w]
            rfl
          refine pure_ (i := 7) (N := some 73) (v := .bool true) (a' := ?_) #[true, true, true, true, true, true, true, true, false, false, false, false, false, false, false, false, false, false, false, false, false, false, false, false, false, false, false, false, false] rfl rfl (by kernel_rfl) (fun _ _ _ h => h) (Or.inl ⟨by rfl, ?_⟩) ?_ ?_
          · intro w' 
            exact (by go_simp; done)
          rotate_left
          · simp only [Act.put, List.setIfInBounds_toArray, List.set_cons_zero, List.set_cons_succ, i64_w, i32_w]
            rfl
          refine pure_ (i := 8) (N := some 74) (v := ?_) (a' := ?_) #[true, true, true, true, true, true, true, true, true, false, false, false, false, false, false, false, false, false, false, false, false, false, false, false, false, false, false, false, false] rfl rfl (by kernel_rfl) (fun _ _ _ h => h) (Or.inl ⟨by rfl, ?_⟩) ?_ ?_
          rotate_left
          · intro w' 
            go_simp
            with_reducible rfl
          rotate_left
          · simp only [Act.put, List.setIfInBounds_toArray, List.set_cons_zero, List.set_cons_succ, i64_w, i32_w]
            rfl
          obtain ⟨v0, v1, v2, hokr, hs2⟩ := HSk.out.rdisk
          have HOKr := Aside0.mk hokr
          obtain ⟨A0_, c0_, rfl, -, -⟩ := row_str hs2 1 rfl
          obtain ⟨A1_, c1_, rfl, -, -⟩ := hs2.wform 2 rfl
          have HSm := Aside0.mk hs2
          clear hs2 hokr HSk
          refine X.more_ (fun w' => (convert 22 9 (.slice A7 (imageTo s 3).length c7)).run Try.prog w' = .ok (.string (strOfNums (imageTo s 3))) w' ∧ w'.cell? ⟨q, 0, none⟩ = some (.slice A0_ s.bytes.length c0_) ∧ w'.cell? ⟨q, 1, none⟩ = some (.slice A1_ s.pend.length c1_) ∧ (convert 22 9 (.slice A0_ s.bytes.length c0_)).run Try.prog w' = .ok (.string (strOfNums s.bytes)) w') ⟨hk7, (HSm.out.boxed 0 rfl).cell 0 _ rfl, (HSm.out.boxed 0 rfl).cell 1 _ rfl, row_conv HSm.out 1 rfl⟩ (fun _ h => h.1) (fun hHeld => ?_)
          refine pure_ (i := 11) (N := some 77) (v := ?_) (a' := ?_) #[true, true, true, true, true, true, true, true, true, false, false, true, false, false, false, false, false, false, false, false, false, false, false, false, false, false, false, false, false] rfl rfl (by kernel_rfl) (fun _ _ _ h => h) (Or.inl ⟨by rfl, ?_⟩) ?_ ?_
          rotate_left
          · intro w' 
            go_simp
            with_reducible rfl
          rotate_left
          · simp only [Act.put, List.setIfInBounds_toArray, List.set_cons_zero, List.set_cons_succ, i64_w, i32_w]
            rfl
          refine pure_ (i := 12) (N := some 78) (v := ?_) (a' := ?_) #[true, true, true, true, true, true, true, true, true, false, false, true, true, false, false, false, false, false, false, false, false, false, false, false, false, false, false, false, false] rfl rfl (by kernel_rfl) (fun _ _ _ h => h) (Or.inl ⟨by rfl, ?_⟩) ?_ ?_
          rotate_left
          · intro w' 
            go_simp
            with_reducible rfl
          rotate_left
          · simp only [Act.put, List.setIfInBounds_toArray, List.set_cons_zero, List.set_cons_succ, i64_w, i32_w]
            rfl
          refine pure_ (i := 13) (N := some 79) (v := ?_) (a' := ?_) #[true, true, true, true, true, true, true, true, true, false, false, true, true, true, false, false, false, false, false, false, false, false, false, false, false, false, false, false, false] rfl rfl (by kernel_rfl) (fun _ _ _ h => h) (Or.inl ⟨by rfl, ?_⟩) ?_ ?_
          rotate_left
          · intro w' 
            go_simp
            with_reducible rfl
          rotate_left
          · simp only [Act.put, List.setIfInBounds_toArray, List.set_cons_zero, List.set_cons_succ, i64_w, i32_w]
            rfl
          refine take_ (i := 14) (N := some 80) (v := .slice A0_ s.bytes.length c0_) (a' := ?_) #[true, true, true, true, true, true, true, true, true, false, false, true, true, true, true, false, false, false, false, false, false, false, false, false, false, false, false, false, false] rfl rfl (by kernel_rfl) (fun _ _ _ h => h) (Or.inl ⟨by rfl, ?_⟩) hHeld ?_ ?_
          · intro w' hs_
            obtain ⟨hs7, hsc0, hsc1, hsv⟩ := hs_
            exact (by go_simp; done)
          rotate_left
          · simp only [Act.put, List.setIfInBounds_toArray, List.set_cons_zero, List.set_cons_succ, i64_w, i32_w]
            rfl
          refine take_ (i := 15) (N := some 81) (v := .string (strOfNums s.bytes)) (a' := ?_) #[true, true, true, true, true, true, true, true, true, false, false, true, true, true, true, true, false, false, false, false, false, false, false, false, false, false, false, false, false] rfl rfl (by kernel_rfl) (fun _ _ _ h => h) (Or.inl ⟨by rfl, ?_⟩) hHeld ?_ ?_
          · intro w' hs_
            obtain ⟨hs7, hsc0, hsc1, hsv⟩ := hs_
            exact conv_exec _ (by rfl) _ _ (by rfl) hsv
          rotate_left
          · simp only [Act.put, List.setIfInBounds_toArray, List.set_cons_zero, List.set_cons_succ, i64_w, i32_w]
            rfl
          refine one_ (i := 9) (N := some 75) #[true, true, true, true, true, true, true, true, true, true, false, true, true, true, true, true, false, false, false, false, false, false, false, false, false, false, false, false, false] rfl rfl (by kernel_rfl) (by decide) (fun K hK => ?_)
          refine goes_ Try.func16 (by kernel_rfl) rfl #[.pointer (some ⟨pc, 0, none⟩)] (by rfl) rfl rfl (by (try simp only [List.map_toArray, List.map_cons, List.map_nil]); first | done | rfl) ?_
          refine (disk_Stable.part w wk _ pc 3 s (HSm.out.perm [4, 0, 1, 2, 3] 5 (by decide) (by decide))).mono ?_
          rintro e wn ⟨v, rfl, hs⟩
          obtain ⟨A9, c9, rfl, -, -⟩ := row_str hs 0 rfl
          have hk := row_conv hs 0 rfl
          have HSn := Aside0.mk (hs.perm [1, 2, 3, 4, 5] 6 (by decide) (by decide))
          refine ⟨_, rfl, ?_⟩
          clear hs HSm hHeld hk7
          refine hK.out _ _ ⟨row_conv HSn.out 6 rfl, (HSn.out.boxed 1 rfl).cell 0 _ rfl, (HSn.out.boxed 1 rfl).cell 1 _ rfl, row_conv HSn.out 2 rfl⟩ (fun hHeld => ?_)
          clear hK K
          refine norm_ (a' := ?_) ?_ ?_
          rotate_left
          · show Act.put _ (some 75) _ = _
            simp only [Act.put, List.setIfInBounds_toArray, List.set_cons_zero, List.set_cons_succ, i64_w, i32_w]
            rfl
          refine one_ (i := 10) (N := some 76) #[true, true, true, true, true, true, true, true, true, true, true, true, true, true, true, true, false, false, false, false, false, false, false, false, false, false, false, false, false] rfl rfl (by kernel_rfl) (by decide) (fun K hK => ?_)
          refine X.val_ (by rfl) rfl (conv_exec _ (by rfl) _ _ (by rfl) hk) ?_
          refine hK.out _ _ ⟨row_conv HSn.out 6 rfl, (HSn.out.boxed 1 rfl).cell 0 _ rfl, (HSn.out.boxed 1 rfl).cell 1 _ rfl, row_conv HSn.out 2 rfl⟩ (fun hHeld => ?_)
          clear hK K
          refine norm_ (a' := ?_) ?_ ?_
          rotate_left
          · show Act.put _ (some 76) _ = _
            simp only [Act.put, List.setIfInBounds_toArray, List.set_cons_zero, List.set_cons_succ, i64_w, i32_w]
            rfl
          refine pure_ (i := 16) (N := some 82) (v := .bool true) (a' := ?_) #[true, true, true, true, true, true, true, true, true, true, true, true, true, true, true, true, true, false, false, false, false, false, false, false, false, false, false, false, false] rfl rfl (by kernel_rfl) (fun _ _ _ h => h) (Or.inl ⟨by rfl, ?_⟩) ?_ ?_
          · intro w' 
            exact (by go_simp; done)
          rotate_left
          · simp only [Act.put, List.setIfInBounds_toArray, List.set_cons_zero, List.set_cons_succ, i64_w, i32_w]
            rfl
          refine pure_ (i := 17) (N := some 83) (v := .bool true) (a' := ?_) #[true, true, true, true, true, true, true, true, true, true, true, true, true, true, true, true, true, true, false, false, false, false, false, false, false, false, false, false, false] rfl rfl (by kernel_rfl) (fun _ _ _ h => h) (Or.inl ⟨by rfl, ?_⟩) ?_ ?_
          · intro w' 
            exact (by go_simp; done)
          rotate_left
          · simp only [Act.put, List.setIfInBounds_toArray, List.set_cons_zero, List.set_cons_succ, i64_w, i32_w]
            rfl
          refine pure_ (i := 18) (N := some 84) (v := .bool true) (a' := ?_) #[true, true, true, true, true, true, true, true, true, true, true, true, true, true, true, true, true, true, true, false, false, false, false, false, false, false, false, false, false] rfl rfl (by kernel_rfl) (fun _ _ _ h => h) (Or.inl ⟨by rfl, ?_⟩) ?_ ?_
          · intro w' 
            exact (by go_simp; done)
          rotate_left
          · simp only [Act.put, List.setIfInBounds_toArray, List.set_cons_zero, List.set_cons_succ, i64_w, i32_w]
            rfl
          refine pure_ (i := 19) (N := some 85) (v := ?_) (a' := ?_) #[true, true, true, true, true, true, true, true, true, true, true, true, true, true, true, true, true, true, true, true, false, false, false, false, false, false, false, false, false] rfl rfl (by kernel_rfl) (fun _ _ _ h => h) (Or.inl ⟨by rfl, ?_⟩) ?_ ?_
          rotate_left
          · intro w' 
            go_simp
            with_reducible rfl
          rotate_left
          · simp only [Act.put, List.setIfInBounds_toArray, List.set_cons_zero, List.set_cons_succ, i64_w, i32_w]
            rfl
          refine pure_ (i := 21) (N := some 87) (v := ?_) (a' := ?_) #[true, true, true, true, true, true, true, true, true, true, true, true, true, true, true, true, true, true, true, true, false, true, false, false, false, false, false, false, false] rfl rfl (by kernel_rfl) (fun _ _ _ h => h) (Or.inl ⟨by rfl, ?_⟩) ?_ ?_
          rotate_left
          · intro w' 
            go_simp
            with_reducible rfl
          rotate_left
          · simp only [Act.put, List.setIfInBounds_toArray, List.set_cons_zero, List.set_cons_succ, i64_w, i32_w]
            rfl
          refine pure_ (i := 22) (N := some 88) (v := ?_) (a' := ?_) #[true, true, true, true, true, true, true, true, true, true, true, true, true, true, true, true, true, true, true, true, false, true, true, false, false, false, false, false, false] rfl rfl (by kernel_rfl) (fun _ _ _ h => h) (Or.inl ⟨by rfl, ?_⟩) ?_ ?_
          rotate_left
          · intro w' 
            go_simp
            with_reducible rfl
          rotate_left
          · simp only [Act.put, List.setIfInBounds_toArray, List.set_cons_zero, List.set_cons_succ, i64_w, i32_w]
            rfl
          refine pure_ (i := 23) (N := some 89) (v := ?_) (a' := ?_) #[true, true, true, true, true, true, true, true, true, true, true, true, true, true, true, true, true, true, true, true, false, true, true, true, false, false, false, false, false] rfl rfl (by kernel_rfl) (fun _ _ _ h => h) (Or.inl ⟨by rfl, ?_⟩) ?_ ?_
          rotate_left
          · intro w' 
            go_simp
            with_reducible rfl
          rotate_left
          · simp only [Act.put, List.setIfInBounds_toArray, List.set_cons_zero, List.set_cons_succ, i64_w, i32_w]
            rfl
          refine take_ (i := 24) (N := some 90) (v := .slice A1_ s.pend.length c1_) (a' := ?_) #[true, true, true, true, true, true, true, true, true, true, true, true, true, true, true, true, true, true, true, true, false, true, true, true, true, false, false, false, false] rfl rfl (by kernel_rfl) (fun _ _ _ h => h) (Or.inl ⟨by rfl, ?_⟩) hHeld ?_ ?_
          · intro w' hs_
            obtain ⟨hs7, hsc0, hsc1, hsv⟩ := hs_
            exact (by go_simp; done)
          rotate_left
          · simp only [Act.put, List.setIfInBounds_toArray, List.set_cons_zero, List.set_cons_succ, i64_w, i32_w]
            rfl
          refine pure_ (i := 25) (N := some 91) (v := .int .i64 (s.pend.length : Int)) (a' := ?_) #[true, true, true, true, true, true, true, true, true, true, true, true, true, true, true, true, true, true, true, true, false, true, true, true, true, true, false, false, false] rfl rfl (by kernel_rfl) (fun _ _ _ h => h) (Or.inl ⟨by rfl, ?_⟩) ?_ ?_
          · intro w' 
            exact (by go_simp; done)
          rotate_left
          · simp only [Act.put, List.setIfInBounds_toArray, List.set_cons_zero, List.set_cons_succ, i64_w, i32_w]
            rfl
          refine one_ (i := 20) (N := some 86) #[true, true, true, true, true, true, true, true, true, true, true, true, true, true, true, true, true, true, true, true, true, true, true, true, true, true, false, false, false] rfl rfl (by kernel_rfl) (by decide) (fun K hK => ?_)
          refine goes_ Try.func20 (by kernel_rfl) rfl #[.pointer (some ⟨pc, 0, none⟩)] (by rfl) rfl rfl (by (try simp only [List.map_toArray, List.map_cons, List.map_nil]); first | done | rfl) ?_
          refine (disk_Pending.part w wn _ pc 3 s HSn.out).mono ?_
          rintro e w' ⟨rfl, rfl⟩
          refine ⟨_, rfl, ?_⟩
          refine hK.out _ _ hHeld (fun hHeld => ?_)
          clear hK K
          refine norm_ (a' := ?_) ?_ ?_
          rotate_left
          · show Act.put _ (some 86) _ = _
            simp only [Act.put, List.setIfInBounds_toArray, List.set_cons_zero, List.set_cons_succ, i64_w, i32_w]
            rfl
          refine pure_ (i := 26) (N := some 92) (v := .bool true) (a' := ?_) #[true, true, true, true, true, true, true, true, true, true, true, true, true, true, true, true, true, true, true, true, true, true, true, true, true, true, true, false, false] rfl rfl (by kernel_rfl) (fun _ _ _ h => h) (Or.inl ⟨by rfl, ?_⟩) ?_ ?_
          · intro w' 
            exact (by go_simp; done)
          rotate_left
          · simp only [Act.put, List.setIfInBounds_toArray, List.set_cons_zero, List.set_cons_succ, i64_w, i32_w]
            rfl
          refine pure_ (i := 27) (N := some 93) (v := .bool true) (a' := ?_) #[true, true, true, true, true, true, true, true, true, true, true, true, true, true, true, true, true, true, true, true, true, true, true, true, true, true, true, true, false] rfl rfl (by kernel_rfl) (fun _ _ _ h => h) (Or.inl ⟨by rfl, ?_⟩) ?_ ?_
          · intro w' 
            exact (by go_simp; done)
          rotate_left
          · simp only [Act.put, List.setIfInBounds_toArray, List.set_cons_zero, List.set_cons_succ, i64_w, i32_w]
            rfl
          refine pure_ (i := 28) (N := some 4) (v := ?_) (a' := ?_) #[true, true, true, true, true, true, true, true, true, true, true, true, true, true, true, true, true, true, true, true, true, true, true, true, true, true, true, true, true] rfl rfl (by kernel_rfl) (fun _ _ _ h => h) (Or.inl ⟨by rfl, ?_⟩) ?_ ?_
          rotate_left
          · intro w' 
            go_simp
            with_reducible rfl
          rotate_left
          · simp only [Act.put, List.setIfInBounds_toArray, List.set_cons_zero, List.set_cons_succ, i64_w, i32_w]
            rfl
          refine done_ (by kernel_rfl) ?_
          have HBZ := Aside0.mk HSn.out.below
          clear HSn hHeld
          go_wp2
          go_ret
          exact ⟨rfl, HBZ.out⟩

end Go.Proofs.Ytbpkjkdbijifbaa.U
