/- Written by uprint.py (ours) for this seat: functions of the translation as Lean functions, and what their calls do. Not trusted: Lean checks it. -/
import Derived.Test.YtbpkjkdbijifbaaUx0
import Derived.Test.YtbpkjkdbijifbaaUx1
import Derived.Test.YtbpkjkdbijifbaaUx2
import Derived.Test.YtbpkjkdbijifbaaUx3
import Derived.Test.YtbpkjkdbijifbaaUx4
import Derived.Test.YtbpkjkdbijifbaaUx13
namespace Go.Proofs.Ytbpkjkdbijifbaa.U
open Go.RowKit Go.Proofs.YtbpkjkdbijifbaaW.PrintWords Go.Proofs.YtbpkjkdbijifbaaW.PrintLast Go.Proofs.YtbpkjkdbijifbaaW.PrintMore
attribute [local go_sem] max2_int min2_int max_two min_two max_three min_three max_four min_four   -- for this text's walks alone
set_option linter.unusedVariables false
set_option linter.unusedSimpArgs false

-- GIVEN: function 24 ((*undercroft/disk.Disk).Settle)
theorem zeroInt2 (w : World) : (zeroValue 3).run Try.prog w = .ok (.int .i64 0) w := by kernel_rfl
theorem disk_Settle_nil.calls (A : Option Addr) (m c : Nat) (w : World) : Calls Try.prog 24 #[.pointer none, .slice A m c] w fun e w' => e = .returned (.tuple #[]) ∧ w = w' := by
  go_enter Try.func24, Try.ntmps24
  go_wp2
  refine bodyPost_ret (results_none rfl _ _ _) rfl ?_
  exact ⟨rfl, rfl⟩
set_option maxHeartbeats 16000000 in
set_option maxRecDepth 100000 in
theorem disk_Settle.calls (p n : Nat) (F G : Nat → Prop) (s : X.DS) (A : Option Addr) (cb : Nat) (bits : List Int) (w : World) (h : X.PD w p F G n s) (hC : (Kd.int .u8).C w A bits.length bits) (hcb : bits.length ≤ cb) (hA : ∀ ad, A = some ad → 0 < bits.length → ¬ F ad.block ∧ ad.block < w.heap.size) (hpl : s.pend.length ≤ 500000000000) :
    Calls Try.prog 24 #[.pointer (some ⟨p, 0, none⟩), .slice A bits.length cb] w (UnitPost w p F G n (s.settle bits)) := by
  obtain ⟨sv, pv, gl, gg, fg, h⟩ := h
  have hn := h.ok.n2
  by_cases hbl : (s.set && decide (s.left = 0)) = true
  · have HP := Aside0.mk h
    have HBL := Aside0.mk hbl
    have HE : Aside0 (s.settle bits = s) := ⟨by unfold X.DS.settle; rw [if_pos hbl]⟩
    clear h hbl hC hA
    go_enter Try.func24, Try.ntmps24
    go_wp2_with ((go_at_call 41; (with_reducible refine (disk_blown.calls p _ _ _ _ s.set s.left w HP.out.box).mono ?_); rw [HBL.out]; rintro e w' ⟨rfl, rfl⟩))
    refine bodyPost_ret (results_none rfl _ _ _) rfl ?_
    refine ⟨rfl, ?_⟩
    rw [HE.out]
    exact ⟨F, G, ⟨_, _, _, _, _, HP.out⟩, X.Turn.refl _ _, fun _ h => .inl h, fun _ h => .inl h⟩
  have hbf := Bool.eq_false_iff.2 hbl
  obtain ⟨gS, cS, hsv, _⟩ := Kd.R_form h.st (by rw [h.ok.len]; have := h.ok.n1; omega)
  rw [h.ok.len] at hsv
  subst hsv
  have hcS : 256 * n ≤ cS := (Kd.R_reads' h.st).2.1
  obtain ⟨A2, c2, e2⟩ := Kd.R_slice h.pd
  subst e2
  have hpl2 : (s.pend.map X.wcells).length = s.pend.length := List.length_map ..
  rw [hpl2] at h
  have hform : Aside0 (∀ k, k < s.pend.length → ∃ g, A2 = some ⟨g, 0, none⟩) := ⟨fun k hk => by
    obtain ⟨g, c', hv, _⟩ := Kd.R_form h.pd (by rw [hpl2]; omega)
    injection hv with hv
    exact ⟨g, hv⟩⟩
  have HP := Aside0.mk h
  have HBL := Aside0.mk hbf
  have HFG : Aside0 (∀ k, F k ∨ G k → k < w.heap.size) := ⟨fun k hk => h.lt hk⟩
  have HW := Aside0.mk h.ok.pend
  have HC := Aside0.mk hC
  have HA := Aside0.mk hA
  have hmm := @run_makeMap Try.prog
  have HPA := Aside0.mk (h.below ((Below.refl w.heap.size w).alloc (Nat.le_refl _) (.map #[] 0)))
  have cz1 := HPA.out.box.cell 1 _ rfl
  clear h hpl2 hC hA hbl hbf
  go_enter Try.func24, Try.ntmps24
  go_wp2_with ((go_at_call 41; (with_reducible refine (disk_blown.calls p _ _ _ _ s.set s.left w HP.out.box).mono ?_); rw [HBL.out]; rintro e w' ⟨rfl, rfl⟩))
  obtain ⟨gN, hgN⟩ : ∃ gN, gN = w.heap.size := ⟨_, rfl⟩
  have HM1 : Aside0 (X.PDr (w.alloc (.map #[] 0)) p F G (.slice (some ⟨gS, 0, none⟩) (256 * n) cS) (.slice A2 s.pend.length c2) gl gg fg n ⟨X.settleTo s.bytes s.pend bits 0, s.pend, s.ghosts, s.set, s.left⟩) := HPA
  have HTT : Aside0 (X.Turn F w (w.alloc (.map #[] 0))) := ⟨X.Turn.of_below ((Below.refl w.heap.size w).alloc (Nat.le_refl _) (.map #[] 0))⟩
  have HN1 : Aside0 (X.IMap Try.prog 3 (w.alloc (.map #[] 0)) gN (fun j => (X.newTo s.pend bits 0 j).map fun m : Nat => Value.int .i64 (m : Int))) := ⟨by rw [hgN]; exact X.IMap.made w⟩
  have HGN : Aside0 (w.heap.size ≤ gN) := ⟨by omega⟩
  rw [← hgN]
  clear hgN HPA cz1 HP
  generalize w.alloc (.map #[] 0) = w1 at *
  go_loopg [24] s.pend.length (fun gk v24 w' => ∃ i : Nat, v24 = .int .i64 (i : Int) ∧ Aside0 (gk + i = s.pend.length) ∧ Aside0 (X.PDr w' p F G (.slice (some ⟨gS, 0, none⟩) (256 * n) cS) (.slice A2 s.pend.length c2) gl gg fg n ⟨X.settleTo s.bytes s.pend bits i, s.pend, s.ghosts, s.set, s.left⟩) ∧ Aside0 (X.Turn F w w') ∧ Aside0 (X.IMap Try.prog 3 w' gN (fun j => (X.newTo s.pend bits i j).map fun m : Nat => Value.int .i64 (m : Int))))
  case atStart => exact ⟨0, rfl, ⟨by omega⟩, HM1, HTT, HN1⟩
  case round =>
    clear HM1 HTT HN1
    obtain ⟨i, rfl, HK, HM, HT, HN⟩ := hrel
    by_cases hlt : i < s.pend.length
    · have q0 : decide ((i : Int) < (s.pend.length : Int)) = true := decide_eq_true (by omega)
      have q00 : decide (i < s.pend.length) = true := decide_eq_true hlt
      obtain ⟨g, rfl⟩ := hform.out i hlt
      obtain ⟨x, hx⟩ : ∃ x, s.pend[i]? = some x := ⟨_, List.getElem?_eq_getElem hlt⟩
      have hxo := HW.out x (List.mem_of_getElem? hx)
      have hrange := X.pend_range HM.out.pd hx
      have HX := Aside0.mk hx
      have HXO := Aside0.mk hxo
      have HRG := Aside0.mk hrange
      obtain ⟨cx, hcx⟩ : ∃ cx, cx = X.wcells x := ⟨_, rfl⟩
      have HCX := Aside0.mk hcx
      have HCL : Aside0 (cx.length = 257) := ⟨by rw [hcx]; exact X.wcells_length hxo⟩
      have HC1 : Aside0 (∀ v ∈ cx, v.oneCell' = true) := ⟨by rw [hcx]; exact X.wcells_one x⟩
      rw [← hcx] at HRG
      clear hx hxo hrange hcx
      go_wp2_with (first | ((with_reducible refine gate_ (.load 69 (.tmp 27)) rfl ?_); (refine wpList_load_mid rfl 69 (.tmp 27) rfl g (i * 257) rfl cx _ HRG.out Try.underlying69 rfl (by rw [HCL.out]; exact info_write) ?_)) | ((with_reducible refine gate_ (.alloc 69) rfl ?_); (refine alloc_write zero_write rfl rfl 6 rfl ?_); intro gb hgb w2 hbx hbl; have HBX := Aside0.mk hbx; have HBL := Aside0.mk hbl; have HGB := Aside0.mk hgb; clear hbx hbl hgb) | ((with_reducible refine gate_ (.store 69 (.tmp 6) (.tmp 28)) rfl ?_); (refine X.store_box rfl 69 (.tmp 6) (.tmp 28) rfl gb zeroW cx.toArray rfl rfl HBX.out (by rw [zeroW_size, List.size_toArray, HCL.out]) (by rw [List.size_toArray, HCL.out]; exact info_write) (all_oneCell_toArray HC1.out) ?_); intro w3 hb3 ht3; clear HBX; have HBX := Aside0.mk hb3; have HT3_ := Aside0.mk ht3; clear hb3 ht3))
      rw [HCX.out] at HBX
      have hB3 : Below wr.heap.size wr w3 := HBL.out.trans (HT3_.out.below (fun k hk => by have e : k = gb := hk; rw [e, HGB.out]; exact Nat.le_refl _) HBL.out.size)
      have HM2a := Aside0.mk (HM.out.below hB3)
      have HT2a := Aside0.mk (HT.out.trans (X.Turn.of_below (S := F) hB3) (fun _ hk => .inl hk))
      have HN2a : Aside0 (X.IMap Try.prog 3 w3 gN (fun j => (X.newTo s.pend bits i j).map fun m : Nat => Value.int .i64 (m : Int))) := ⟨HN.out.move (hB3.block gN HN.out.lt)⟩
      have HCW := Aside0.mk (C_turn1 HC.out HA.out HT2a.out)
      clear HM HT HN HBL HT3_ HGB hB3 HRG
      rcases hbit : X.bitAt bits i with _ | _
      · have HBT := Aside0.mk hbit
        refine (disk_bit.calls A cb bits (i : Int) false w3 HCW.out hcb (by rw [bit_f bits i (by omega), hbit])).mono ?_
        rintro e w4 ⟨rfl, hd⟩
        have HD : Aside0 (Below w3.heap.size w3 w4) := ⟨by obtain ⟨n_, rfl⟩ := hd.out; exact pw_below_drewN (Below.refl _ _) n_⟩
        clear hd hbit HCW
        go_wp2
        cases gk with
        | zero => exact absurd HK.out (by omega)
        | succ k1 =>
          go_roundg k1
          case measure => omega
          case rel => exact ⟨i + 1, by go_num, ⟨by have := HK.out; omega⟩, ⟨by rw [X.settleTo, HX.out]; simp only [HBT.out]; exact HM2a.out.below HD.out⟩, ⟨HT2a.out.trans (X.Turn.of_below (S := F) HD.out) (fun _ h => .inl h)⟩, ⟨by rw [X.newTo_no HX.out HBT.out]; exact HN2a.out.move (HD.out.block gN HN2a.out.lt)⟩⟩
      · have HBT := Aside0.mk hbit
        refine (disk_bit.calls A cb bits (i : Int) true w3 HCW.out hcb (by rw [bit_f bits i (by omega), hbit])).mono ?_
        rintro e w3b ⟨rfl, hd⟩
        have HD : Aside0 (Below w3.heap.size w3 w3b) := ⟨by obtain ⟨n_, rfl⟩ := hd.out; exact pw_below_drewN (Below.refl _ _) n_⟩
        have HM2 := Aside0.mk (HM2a.out.below HD.out)
        have HT2 := Aside0.mk (HT2a.out.trans (X.Turn.of_below (S := F) HD.out) (fun _ h => .inl h))
        have HN2 : Aside0 (X.IMap Try.prog 3 w3b gN (fun j => (X.newTo s.pend bits i j).map fun m : Nat => Value.int .i64 (m : Int))) := ⟨HN2a.out.move (HD.out.block gN HN2a.out.lt)⟩
        have HBX2 := Aside0.mk (HBX.out.below HD.out HBX.out.lt)
        clear hd hbit HCW HM2a HT2a HN2a HBX HD
        have HBX := HBX2
        clear HBX2
        go_wp2_with fail
        refine start_ (n := 7) (S := (fun w' => w'.cell? ⟨gb, 0, none⟩ = some (.int .i64 (x.1 : Int)))) (ds := [6]) #[false, false, false, false, false, false, false] (by kernel_rfl) rfl rfl (HBX.out.cell 0 _ rfl) (fun hHeld => ?_)
        have HM3 := Aside0.mk (HM2.out.below (below_drew1 (Below.refl _ _)))
        have HBX3 := Aside0.mk (HBX.out.below (below_drew1 (Below.refl _ _)) HBX.out.lt)
        have HT3 := Aside0.mk (HT2.out.trans (X.Turn.of_below (S := F) (below_drew1 (Below.refl _ _))) (fun _ hk => .inl hk))
        have HN3 : Aside0 (X.IMap Try.prog 3 (World.drew _) gN (fun j => (X.newTo s.pend bits i j).map fun m : Nat => Value.int .i64 (m : Int))) := ⟨HN2.out.move rfl⟩
        generalize World.drew _ = w4 at *
        clear HN2
        clear HM2 HT2 HBX
        refine pure_ (i := 0) (N := some 32) (v := ?_) (a' := ?_) #[true, false, false, false, false, false, false] rfl rfl (by kernel_rfl) (fun _ _ _ h => h) (Or.inl ⟨by rfl, ?_⟩) ?_ ?_
        rotate_left
        · intro w' 
          go_simp
          with_reducible rfl
        rotate_left
        · simp only [Act.put, List.setIfInBounds_toArray, List.set_cons_zero, List.set_cons_succ, i64_w, i32_w]
          rfl
        refine pure_ (i := 1) (N := some 33) (v := ?_) (a' := ?_) #[true, true, false, false, false, false, false] rfl rfl (by kernel_rfl) (fun _ _ _ h => h) (Or.inl ⟨by rfl, ?_⟩) ?_ ?_
        rotate_left
        · intro w' 
          go_simp
          with_reducible rfl
        rotate_left
        · simp only [Act.put, List.setIfInBounds_toArray, List.set_cons_zero, List.set_cons_succ, i64_w, i32_w]
          rfl
        refine take_ (i := 2) (N := some 34) (v := ?_) (a' := ?_) #[true, true, true, false, false, false, false] rfl rfl (by kernel_rfl) (fun _ _ _ h => h) (Or.inl ⟨by rfl, ?_⟩) hHeld ?_ ?_
        rotate_left
        · intro w' hs_
          obtain hs0 := hs_
          go_simp
          with_reducible rfl
        rotate_left
        · simp only [Act.put, List.setIfInBounds_toArray, List.set_cons_zero, List.set_cons_succ, i64_w, i32_w]
          rfl
        refine pure_ (i := 4) (N := some 36) (v := ?_) (a' := ?_) #[true, true, true, false, true, false, false] rfl rfl (by kernel_rfl) (fun _ _ _ h => h) (Or.inl ⟨by rfl, ?_⟩) ?_ ?_
        rotate_left
        · intro w' 
          go_simp
          with_reducible rfl
        rotate_left
        · simp only [Act.put, List.setIfInBounds_toArray, List.set_cons_zero, List.set_cons_succ, i64_w, i32_w]
          rfl
        refine pure_ (i := 5) (N := some 37) (v := ?_) (a' := ?_) #[true, true, true, false, true, true, false] rfl rfl (by kernel_rfl) (fun _ _ _ h => h) (Or.inl ⟨by rfl, ?_⟩) ?_ ?_
        rotate_left
        · intro w' 
          go_simp
          with_reducible rfl
        rotate_left
        · simp only [Act.put, List.setIfInBounds_toArray, List.set_cons_zero, List.set_cons_succ, i64_w, i32_w]
          rfl
        refine one_ (i := 3) (N := some 35) #[true, true, true, true, true, true, false] rfl rfl (by kernel_rfl) (by decide) (fun K hK => ?_)
        refine goes_ Try.func38 (by kernel_rfl) rfl #[.pointer (some ⟨p, 0, none⟩), .int .i64 (x.1 : Int)] (by rfl) rfl rfl (by (try simp only [List.map_toArray, List.map_cons, List.map_nil]); first | done | rfl) ?_
        refine (disk_at.calls p gS n cS x.1 _ _ _ _ _ w4 HM3.out.box hn HXO.out.1 hcS).mono ?_
        rintro e w' ⟨rfl, rfl⟩
        refine ⟨_, rfl, ?_⟩
        refine hK.out _ _ hHeld (fun hHeld => ?_)
        clear hK K
        refine norm_ (a' := ?_) ?_ ?_
        rotate_left
        · show Act.put _ (some 35) _ = _
          simp only [Act.put, List.setIfInBounds_toArray, List.set_cons_zero, List.set_cons_succ, i64_w, i32_w]
          rfl
        refine last_ (i := 6) (N := some 38) #[true, true, true, true, true, true, true] rfl rfl (by kernel_rfl) (by decide) (fun K hK => ?_)
        refine X.copy_step (P := Try.prog) (w0 := w4) .u8 0 (by rfl) rfl (.tmp 35) (.tmp 37) 22 22 5 rfl Try.underlying22 (by obtain ⟨i, hi, _, hs, _⟩ := info_parts info5; rw [hi]; exact congrArg some hs) gS (256 * n) cS (256 * x.1) 256 (cS - 256 * x.1) (some ⟨gb, 1, none⟩) 256 256 _ x.2 F (by rfl) (by rfl) HM3.out.st (X.box_C HBX3.out HXO.out.2.1) (by omega) (by have := HXO.out.1; omega) (Below.refl 0 w4) (Nat.zero_le _) ?_
        intro w5 hr5 hb5 hg5
        have hlo := X.lay_ok HM3.out.ok.len HM3.out.ok.u8 HXO.out
        have HM5 := Aside0.mk (HM3.out.stabled hr5 hg5 (hlo.1.trans HM3.out.ok.len.symm) hlo.2)
        have HT5 := Aside0.mk (HT3.out.trans ((X.Turn.grown hg5).mono (S' := F) (fun k hk => HM3.out.st.1 k (Eq.symm hk))) (fun _ h => .inl h))
        have HBX5 : Aside0 (X.Blk w5 gb (X.wcells x).toArray 69) := ⟨(hg5.block gb HBX3.out.lt (Kd.R_ne HM3.out.st HBX3.out (by decide))).trans HBX3.out⟩
        have HN5 := Aside0.mk (X.IMap.row HN3.out HM3.out.st hg5)
        clear HN3
        clear hr5 hb5 hg5 hlo HM3 HT3 HBX3 hHeld
        refine hK.out _ _ ?_
        clear hK K
        refine done_ (by kernel_rfl) ?_
        obtain ⟨w7, hrun7, hm7, hg7⟩ := HN5.out.store Try.underlying3 Try.underlying63 (i := (x.1 : Int)) ⟨by omega, by have := HXO.out.1; omega⟩ (X.newTo_range HW.out hn bits i) (.int .i64 (i : Int))
        have c0_ := HBX5.out.cell 0 _ rfl
        have c0b : w5.cell? ⟨gb, 0, none⟩ = some (.int .i64 (x.1 : Int)) := c0_
        clear c0_
        have HM7 := Aside0.mk (HM5.out.turn (X.Turn.grown hg7) (fun k hk => by
          have e : some k = some gN := hk
          injection e with e
          subst e
          have := HGN.out
          exact ⟨fun h => by have := HFG.out _ (.inl h); omega, fun h => by have := HFG.out _ (.inr h); omega⟩))
        have HT7 := Aside0.mk (HT5.out.trans (X.Turn.grown hg7) (fun k hk => by
          have e : some k = some gN := hk
          injection e with e
          rw [e]
          exact .inr HGN.out))
        have HN7 : Aside0 (X.IMap Try.prog 3 w7 gN (fun j => (X.newTo s.pend bits (i + 1) j).map fun m : Nat => Value.int .i64 (m : Int))) := ⟨by rw [X.newTo_yes HX.out HBT.out]; exact hm7⟩
        clear hm7 hg7 HN5 HM5 HT5 HBX5
        go_wp2
        cases gk with
        | zero => exact absurd HK.out (by omega)
        | succ k1 =>
          go_roundg k1
          case measure => omega
          case rel => exact ⟨i + 1, by go_num, ⟨by have := HK.out; omega⟩, ⟨by rw [X.settleTo, HX.out]; simp only [HBT.out, if_true]; exact HM7.out⟩, HT7, HN7⟩
    · have q0 : decide ((i : Int) < (s.pend.length : Int)) = false := decide_eq_false (by omega)
      have q00 : decide (i < s.pend.length) = false := decide_eq_false hlt
      obtain rfl : i = s.pend.length := by have := HK.out; omega
      have cz1 := HM.out.box.cell 1 _ rfl
      go_wp2_with fail
      obtain ⟨B, hB⟩ : ∃ B, B = X.settleTo s.bytes s.pend bits s.pend.length := ⟨_, rfl⟩
      rw [← hB] at HM
      have HBB := Aside0.mk hB
      obtain ⟨fN, hfN⟩ : ∃ fN : Int → Option Value, fN = (fun j => (X.newTo s.pend bits s.pend.length j).map fun m : Nat => Value.int .i64 (m : Int)) := ⟨_, rfl⟩
      rw [← hfN] at HN
      have HFN := Aside0.mk hfN
      clear hB hfN cz1
      go_loopg [7, 49] s.pend.length (fun gk v7 v49 w' => ∃ i : Nat, v49 = .int .i64 (i : Int) ∧ Aside0 (gk + i = s.pend.length) ∧ Aside0 (X.PDr w' p F G (.slice (some ⟨gS, 0, none⟩) (256 * n) cS) (.slice A2 s.pend.length c2) gl gg fg n ⟨B, s.pend, s.ghosts, s.set, s.left⟩) ∧ Aside0 (X.Turn F w w') ∧ Aside0 (X.IMap Try.prog 3 w' gN fN) ∧ Aside0 ((Kd.raw 257).R 69 w' w.heap.size (fun _ => True) v7 ((X.leftTo s.pend bits i).map X.wcells)))
      case atStart => exact ⟨0, rfl, ⟨by omega⟩, HM, HT, HN, ⟨Kd.R_nil _ _ _ _ _⟩⟩
      case round =>
        clear HM HT HN
        obtain ⟨i, rfl, HK, HM, HT, HN, HL⟩ := hrel
        by_cases hlt : i < s.pend.length
        · have q0 : decide ((i : Int) < (s.pend.length : Int)) = true := decide_eq_true (by omega)
          have q00 : decide (i < s.pend.length) = true := decide_eq_true hlt
          obtain ⟨g, rfl⟩ := hform.out i hlt
          obtain ⟨x, hx⟩ : ∃ x, s.pend[i]? = some x := ⟨_, List.getElem?_eq_getElem hlt⟩
          have hxo := HW.out x (List.mem_of_getElem? hx)
          have hrange := X.pend_range HM.out.pd hx
          have HX := Aside0.mk hx
          have HXO := Aside0.mk hxo
          have HRG := Aside0.mk hrange
          obtain ⟨cx, hcx⟩ : ∃ cx, cx = X.wcells x := ⟨_, rfl⟩
          have HCX := Aside0.mk hcx
          have HCL : Aside0 (cx.length = 257) := ⟨by rw [hcx]; exact X.wcells_length hxo⟩
          have HC1 : Aside0 (∀ v ∈ cx, v.oneCell' = true) := ⟨by rw [hcx]; exact X.wcells_one x⟩
          rw [← hcx] at HRG
          clear hx hxo hrange hcx
          obtain ⟨A7, c7, e7⟩ := Kd.R_slice HL.out
          generalize hl7 : ((X.leftTo s.pend bits i).map X.wcells).length = L7 at e7
          subst e7
          clear hl7
          have HWF : Aside0 ((Lit.int .i64 (x.1 : Int)).wf = true) := ⟨by
            have := HXO.out.1
            simp [Lit.wf, IntKind.min, IntKind.max, IntKind.bits, IntKind.signed]
            omega⟩
          rcases hnew : X.newTo s.pend bits s.pend.length (x.1 : Int) with _ | m
          · have HSB : Aside0 (X.staysB s.pend bits i x = true) := ⟨by unfold X.staysB; rw [hnew]⟩
            have HFX : Aside0 (fN (x.1 : Int) = none) := ⟨by rw [HFN.out]; simp only [hnew]; rfl⟩
            clear hnew
            go_wp2_with (first | ((with_reducible refine gate_ (.load 69 (.tmp 52)) rfl ?_); (refine wpList_load_mid rfl 69 (.tmp 52) rfl g (i * 257) rfl cx _ HRG.out Try.underlying69 rfl (by rw [HCL.out]; exact info_write) ?_)) | ((with_reducible refine gate_ (.alloc 69) rfl ?_); (refine alloc_write zero_write rfl rfl 9 rfl ?_); intro gb hgb w2 hbx hbl; have HBX := Aside0.mk hbx; have HBL := Aside0.mk hbl; have HGB := Aside0.mk hgb; clear hbx hbl hgb) | ((with_reducible refine gate_ (.store 69 (.tmp 9) (.tmp 53)) rfl ?_); (refine X.store_box rfl 69 (.tmp 9) (.tmp 53) rfl gb zeroW cx.toArray rfl rfl HBX.out (by rw [zeroW_size, List.size_toArray, HCL.out]) (by rw [List.size_toArray, HCL.out]; exact info_write) (all_oneCell_toArray HC1.out) ?_); intro w3 hb3 ht3; clear HBX; have HBX := Aside0.mk hb3; have HT3_ := Aside0.mk ht3; clear hb3 ht3; have hB3 : Below wr.heap.size wr w3 := HBL.out.trans (HT3_.out.below (fun k hk => by have e : k = gb := hk; rw [e, HGB.out]; exact Nat.le_refl _) HBL.out.size); have HM2 := Aside0.mk (HM.out.below hB3); have HT2 := Aside0.mk (HT.out.trans (X.Turn.of_below (S := F) hB3) (fun _ hk => .inl hk)); have HN2 : Aside0 (X.IMap Try.prog 3 w3 gN fN) := ⟨HN.out.move (hB3.block gN HN.out.lt)⟩; have HL2 := Aside0.mk (Kd.R_below HL.out hB3); have HRB : Aside0 (w3.rangeAt gb 0 cx) := ⟨fun j v hj => by rw [Nat.zero_add]; exact HBX.out.cell j v (by simpa using hj)⟩; have c0_ : w3.cell? ⟨gb, 0, none⟩ = some (.int .i64 (x.1 : Int)) := HBX.out.cell 0 _ (by rw [HCX.out]; rfl); have hlk := HN2.out.look Try.underlying3 Try.underlying63 (zeroInt2 w3) HWF.out; rw [HFX.out] at hlk; simp only [Option.getD_none, Option.getD_some, Option.isSome_none, Option.isSome_some] at hlk; clear hB3 HM HT HN HL HBL HT3_ HGB HRG) | ((with_reducible refine gate_ (.load 69 (.tmp 9)) rfl ?_); (refine wpList_load_mid rfl 69 (.tmp 9) rfl gb 0 rfl cx _ HRB.out Try.underlying69 rfl (by rw [HCL.out]; exact info_write) ?_)) | ((with_reducible refine gate_ (.buildSlice 62 1 #[(0, .tmp 69)]) rfl ?_); (refine X.wpList_slice rfl (.tmp 69) rfl _ _ (by rfl) (slice_write w3 cx HCL.out) ?_); obtain ⟨gc, hgc⟩ : ∃ gc, gc = w3.heap.size := ⟨_, rfl⟩; have HB4 : Aside0 (Below w3.heap.size w3 (w3.alloc (.cells cx.toArray 69))) := ⟨(Below.refl _ _).alloc (Nat.le_refl _) _⟩; have hx4 := X.Blk.new w3 cx.toArray 69; rw [← hgc] at hx4 ⊢; have HX4 := Aside0.mk hx4; have HGC := Aside0.mk hgc; clear hx4 hgc; generalize w3.alloc (.cells cx.toArray 69) = w4 at *; have HR4 := Aside0.mk (Kd.R_below HL2.out HB4.out); have HZ4 : Aside0 (w.heap.size ≤ w4.heap.size) := ⟨Nat.le_trans HT2.out.size HB4.out.size⟩; have HXC := Aside0.mk (X.C_raw_one HX4.out HCL.out HC1.out)) | ((with_reducible refine gate_ (.call { callee := .builtin .append, args := #[.tmp 68, .tmp 70], argTypes := #[62, 62] }) rfl ?_); (refine Kd.R_append_rows (Kd.raw 257) (w0 := w4) w.heap.size rfl (.tmp 68) (.tmp 70) 62 69 (.agg zeroW) 264 rfl Try.underlying62 info_write3 zeroW_size (by decide) (by decide) _ ((X.leftTo s.pend bits i).map X.wcells) [cx] _ _ _ (fun _ => True) (fun _ => False) (by rfl) (by rfl) HR4.out HXC.out (fun _ _ h => h) (fun _ h => h.elim) (fun _ _ => trivial) (Below.refl _ _) HZ4.out (by rw [List.length_map]; have := X.leftTo_le s.pend bits i; omega) ?_); intro v5 w5 hr5 hb5 hg5 ha5; have HR5 := Aside0.mk hr5; have HG5 := Aside0.mk hg5; clear hr5 hb5 hg5 ha5))
            have hbs5 := Kd.R_base HR4.out
            have HM5 := Aside0.mk ((HM2.out.below HB4.out).turn (X.Turn.grown HG5.out) (fun k hk => by
              have h1 := hbs5 k (Eq.symm hk)
              exact ⟨fun h => by have := HFG.out _ (.inl h); omega, fun h => by have := HFG.out _ (.inr h); omega⟩))
            have HT5 := Aside0.mk ((HT2.out.trans (X.Turn.of_below (S := F) HB4.out) (fun _ h => .inl h)).trans (X.Turn.grown HG5.out) (fun k hk => .inr (hbs5 k (Eq.symm hk))))
            have HN5 := Aside0.mk (X.IMap.row (HN2.out.move (HB4.out.block gN HN2.out.lt)) HR4.out HG5.out)
            clear hbs5
            cases gk with
            | zero => exact absurd HK.out (by omega)
            | succ k1 =>
              go_roundg k1
              case measure => omega
              case rel => exact ⟨i + 1, by go_num, ⟨by have := HK.out; omega⟩, HM5, HT5, HN5, ⟨by rw [X.leftTo, HX.out]; simp only [HSB.out, if_true]; rw [List.map_append, List.map_cons, List.map_nil, ← HCX.out]; exact HR5.out⟩⟩
          · by_cases hm : m < i
            · have HSB : Aside0 (X.staysB s.pend bits i x = true) := ⟨by unfold X.staysB; rw [hnew]; exact decide_eq_true hm⟩
              have HFX : Aside0 (fN (x.1 : Int) = some (.int .i64 (m : Int))) := ⟨by rw [HFN.out]; simp only [hnew]; rfl⟩
              clear hnew
              have qm : decide ((m : Int) < (i : Int)) = true := decide_eq_true (by omega)
              have qm2 : decide (m < i) = true := decide_eq_true hm
              clear hm
              go_wp2_with (first | ((with_reducible refine gate_ (.load 69 (.tmp 52)) rfl ?_); (refine wpList_load_mid rfl 69 (.tmp 52) rfl g (i * 257) rfl cx _ HRG.out Try.underlying69 rfl (by rw [HCL.out]; exact info_write) ?_)) | ((with_reducible refine gate_ (.alloc 69) rfl ?_); (refine alloc_write zero_write rfl rfl 9 rfl ?_); intro gb hgb w2 hbx hbl; have HBX := Aside0.mk hbx; have HBL := Aside0.mk hbl; have HGB := Aside0.mk hgb; clear hbx hbl hgb) | ((with_reducible refine gate_ (.store 69 (.tmp 9) (.tmp 53)) rfl ?_); (refine X.store_box rfl 69 (.tmp 9) (.tmp 53) rfl gb zeroW cx.toArray rfl rfl HBX.out (by rw [zeroW_size, List.size_toArray, HCL.out]) (by rw [List.size_toArray, HCL.out]; exact info_write) (all_oneCell_toArray HC1.out) ?_); intro w3 hb3 ht3; clear HBX; have HBX := Aside0.mk hb3; have HT3_ := Aside0.mk ht3; clear hb3 ht3; have hB3 : Below wr.heap.size wr w3 := HBL.out.trans (HT3_.out.below (fun k hk => by have e : k = gb := hk; rw [e, HGB.out]; exact Nat.le_refl _) HBL.out.size); have HM2 := Aside0.mk (HM.out.below hB3); have HT2 := Aside0.mk (HT.out.trans (X.Turn.of_below (S := F) hB3) (fun _ hk => .inl hk)); have HN2 : Aside0 (X.IMap Try.prog 3 w3 gN fN) := ⟨HN.out.move (hB3.block gN HN.out.lt)⟩; have HL2 := Aside0.mk (Kd.R_below HL.out hB3); have HRB : Aside0 (w3.rangeAt gb 0 cx) := ⟨fun j v hj => by rw [Nat.zero_add]; exact HBX.out.cell j v (by simpa using hj)⟩; have c0_ : w3.cell? ⟨gb, 0, none⟩ = some (.int .i64 (x.1 : Int)) := HBX.out.cell 0 _ (by rw [HCX.out]; rfl); have hlk := HN2.out.look Try.underlying3 Try.underlying63 (zeroInt2 w3) HWF.out; rw [HFX.out] at hlk; simp only [Option.getD_none, Option.getD_some, Option.isSome_none, Option.isSome_some] at hlk; clear hB3 HM HT HN HL HBL HT3_ HGB HRG) | ((with_reducible refine gate_ (.load 69 (.tmp 9)) rfl ?_); (refine wpList_load_mid rfl 69 (.tmp 9) rfl gb 0 rfl cx _ HRB.out Try.underlying69 rfl (by rw [HCL.out]; exact info_write) ?_)) | ((with_reducible refine gate_ (.buildSlice 62 1 #[(0, .tmp 69)]) rfl ?_); (refine X.wpList_slice rfl (.tmp 69) rfl _ _ (by rfl) (slice_write w3 cx HCL.out) ?_); obtain ⟨gc, hgc⟩ : ∃ gc, gc = w3.heap.size := ⟨_, rfl⟩; have HB4 : Aside0 (Below w3.heap.size w3 (w3.alloc (.cells cx.toArray 69))) := ⟨(Below.refl _ _).alloc (Nat.le_refl _) _⟩; have hx4 := X.Blk.new w3 cx.toArray 69; rw [← hgc] at hx4 ⊢; have HX4 := Aside0.mk hx4; have HGC := Aside0.mk hgc; clear hx4 hgc; generalize w3.alloc (.cells cx.toArray 69) = w4 at *; have HR4 := Aside0.mk (Kd.R_below HL2.out HB4.out); have HZ4 : Aside0 (w.heap.size ≤ w4.heap.size) := ⟨Nat.le_trans HT2.out.size HB4.out.size⟩; have HXC := Aside0.mk (X.C_raw_one HX4.out HCL.out HC1.out)) | ((with_reducible refine gate_ (.call { callee := .builtin .append, args := #[.tmp 68, .tmp 70], argTypes := #[62, 62] }) rfl ?_); (refine Kd.R_append_rows (Kd.raw 257) (w0 := w4) w.heap.size rfl (.tmp 68) (.tmp 70) 62 69 (.agg zeroW) 264 rfl Try.underlying62 info_write3 zeroW_size (by decide) (by decide) _ ((X.leftTo s.pend bits i).map X.wcells) [cx] _ _ _ (fun _ => True) (fun _ => False) (by rfl) (by rfl) HR4.out HXC.out (fun _ _ h => h) (fun _ h => h.elim) (fun _ _ => trivial) (Below.refl _ _) HZ4.out (by rw [List.length_map]; have := X.leftTo_le s.pend bits i; omega) ?_); intro v5 w5 hr5 hb5 hg5 ha5; have HR5 := Aside0.mk hr5; have HG5 := Aside0.mk hg5; clear hr5 hb5 hg5 ha5))
              have hbs5 := Kd.R_base HR4.out
              have HM5 := Aside0.mk ((HM2.out.below HB4.out).turn (X.Turn.grown HG5.out) (fun k hk => by
                have h1 := hbs5 k (Eq.symm hk)
                exact ⟨fun h => by have := HFG.out _ (.inl h); omega, fun h => by have := HFG.out _ (.inr h); omega⟩))
              have HT5 := Aside0.mk ((HT2.out.trans (X.Turn.of_below (S := F) HB4.out) (fun _ h => .inl h)).trans (X.Turn.grown HG5.out) (fun k hk => .inr (hbs5 k (Eq.symm hk))))
              have HN5 := Aside0.mk (X.IMap.row (HN2.out.move (HB4.out.block gN HN2.out.lt)) HR4.out HG5.out)
              clear hbs5
              cases gk with
              | zero => exact absurd HK.out (by omega)
              | succ k1 =>
                go_roundg k1
                case measure => omega
                case rel => exact ⟨i + 1, by go_num, ⟨by have := HK.out; omega⟩, HM5, HT5, HN5, ⟨by rw [X.leftTo, HX.out]; simp only [HSB.out, if_true]; rw [List.map_append, List.map_cons, List.map_nil, ← HCX.out]; exact HR5.out⟩⟩
            · have HSB : Aside0 (X.staysB s.pend bits i x = false) := ⟨by unfold X.staysB; rw [hnew]; exact decide_eq_false hm⟩
              have HFX : Aside0 (fN (x.1 : Int) = some (.int .i64 (m : Int))) := ⟨by rw [HFN.out]; simp only [hnew]; rfl⟩
              clear hnew
              have qm : decide ((m : Int) < (i : Int)) = false := decide_eq_false (by omega)
              have qm2 : decide (m < i) = false := decide_eq_false hm
              clear hm
              go_wp2_with (first | ((with_reducible refine gate_ (.load 69 (.tmp 52)) rfl ?_); (refine wpList_load_mid rfl 69 (.tmp 52) rfl g (i * 257) rfl cx _ HRG.out Try.underlying69 rfl (by rw [HCL.out]; exact info_write) ?_)) | ((with_reducible refine gate_ (.alloc 69) rfl ?_); (refine alloc_write zero_write rfl rfl 9 rfl ?_); intro gb hgb w2 hbx hbl; have HBX := Aside0.mk hbx; have HBL := Aside0.mk hbl; have HGB := Aside0.mk hgb; clear hbx hbl hgb) | ((with_reducible refine gate_ (.store 69 (.tmp 9) (.tmp 53)) rfl ?_); (refine X.store_box rfl 69 (.tmp 9) (.tmp 53) rfl gb zeroW cx.toArray rfl rfl HBX.out (by rw [zeroW_size, List.size_toArray, HCL.out]) (by rw [List.size_toArray, HCL.out]; exact info_write) (all_oneCell_toArray HC1.out) ?_); intro w3 hb3 ht3; clear HBX; have HBX := Aside0.mk hb3; have HT3_ := Aside0.mk ht3; clear hb3 ht3; have hB3 : Below wr.heap.size wr w3 := HBL.out.trans (HT3_.out.below (fun k hk => by have e : k = gb := hk; rw [e, HGB.out]; exact Nat.le_refl _) HBL.out.size); have HM2 := Aside0.mk (HM.out.below hB3); have HT2 := Aside0.mk (HT.out.trans (X.Turn.of_below (S := F) hB3) (fun _ hk => .inl hk)); have HN2 : Aside0 (X.IMap Try.prog 3 w3 gN fN) := ⟨HN.out.move (hB3.block gN HN.out.lt)⟩; have HL2 := Aside0.mk (Kd.R_below HL.out hB3); have HRB : Aside0 (w3.rangeAt gb 0 cx) := ⟨fun j v hj => by rw [Nat.zero_add]; exact HBX.out.cell j v (by simpa using hj)⟩; have c0_ : w3.cell? ⟨gb, 0, none⟩ = some (.int .i64 (x.1 : Int)) := HBX.out.cell 0 _ (by rw [HCX.out]; rfl); have hlk := HN2.out.look Try.underlying3 Try.underlying63 (zeroInt2 w3) HWF.out; rw [HFX.out] at hlk; simp only [Option.getD_none, Option.getD_some, Option.isSome_none, Option.isSome_some] at hlk; clear hB3 HM HT HN HL HBL HT3_ HGB HRG))
              cases gk with
              | zero => exact absurd HK.out (by omega)
              | succ k1 =>
                go_roundg k1
                case measure => omega
                case rel => exact ⟨i + 1, by go_num, ⟨by have := HK.out; omega⟩, HM2, HT2, HN2, ⟨by rw [X.leftTo, HX.out]; simp only [HSB.out]; exact HL2.out⟩⟩
        · have q0 : decide ((i : Int) < (s.pend.length : Int)) = false := decide_eq_false (by omega)
          have q00 : decide (i < s.pend.length) = false := decide_eq_false hlt
          obtain rfl : i = s.pend.length := by have := HK.out; omega
          have HF2 : Aside0 (∀ k, F k → (F k ∨ (w.heap.size ≤ k ∧ k < wr.heap.size))) := ⟨fun _ h => .inl h⟩
          have HMW := Aside0.mk (HM.out.widen (F' := fun k => F k ∨ (w.heap.size ≤ k ∧ k < wr.heap.size)) HF2.out (fun k hk hk2 => hk.elim (fun h => HM.out.sep k h hk2) (fun h => by have := HFG.out k (.inr hk2); omega)) (fun k hk => hk.elim (HM.out.fb k) (fun h => h.2)))
          have HLW := Aside0.mk (Kd.R_mono (Kd.R_lower (Kd.R_bound HL.out) (Nat.zero_le _)) (ok' := fun k => F k ∨ (w.heap.size ≤ k ∧ k < wr.heap.size)) (fun k hk => .inr ⟨hk.2.1, hk.2.2.1⟩))
          have HLO := Aside0.mk (X.leftTo_ok HW.out bits s.pend.length)
          go_wp2_with fail
          refine (disk_keep.calls p n _ G _ _ _ gl gg fg ⟨B, s.pend, s.ghosts, s.set, s.left⟩ (X.leftTo s.pend bits s.pend.length) _ HMW.out HLW.out HLO.out).mono ?_
          rintro e w9 ⟨rfl, hm9, ht9⟩
          have HM9 := Aside0.mk hm9
          have HT9 := Aside0.mk ht9
          clear hm9 ht9
          go_wp2
          go_end0
          have e : s.settle bits = { s with bytes := B, pend := X.leftTo s.pend bits s.pend.length } := by
            unfold X.DS.settle
            rw [if_neg (by rw [HBL.out]; decide), HBB.out]
          unfold UnitPost
          rw [e]
          exact ⟨rfl, _, G, ⟨_, _, _, _, _, HM9.out⟩, HT.out.trans HT9.out (fun k hk => hk.imp id (fun h => h.1)), fun k hk => hk.imp id (fun h => h.1), fun _ h => .inl h⟩
theorem disk_Settle.part (w0 w : World) (L : List X.Res) (p n : Nat) (s : X.DS) (A : Option Addr) (c : Nat) (bits : List Int) (h : X.Lies w0 w (.disk p n s :: L)) (hr : X.Rd w0 L fun w' => (Kd.int .u8).C w' A bits.length bits) (hc : bits.length ≤ c) (hpl : s.pend.length ≤ 500000000000) :
    Calls Try.prog 24 #[.pointer (some ⟨p, 0, none⟩), .slice A bits.length c] w fun e w' => e = .returned (.tuple #[]) ∧ X.Lies w0 w' (.disk p n (s.settle bits) :: L) := by
  obtain ⟨F, G, hp, hd, ha⟩ := h.disk
  have hC := hr w h.tail
  refine (disk_Settle.calls p n F G s A c bits w hp hC hc (fun ad e h0 => ⟨ha A _ bits hr ad e h0, by subst e; exact X.u8_lt hC h0⟩) hpl).mono ?_
  rintro e w' ⟨rfl, h2⟩
  exact ⟨rfl, hd _ _ h2⟩

end Go.Proofs.Ytbpkjkdbijifbaa.U
