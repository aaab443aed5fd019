/- Written by uprint.py (ours) for this seat: functions of the translation as Lean functions, and what their calls do. Not trusted: Lean checks it. -/
import Derived.Test.YtbpkjkdbijifbaaUx0
import Derived.Test.YtbpkjkdbijifbaaUx3
import Derived.Test.YtbpkjkdbijifbaaUx13
namespace Go.Proofs.Ytbpkjkdbijifbaa.U
open Go.RowKit Go.Proofs.YtbpkjkdbijifbaaW.PrintWords Go.Proofs.YtbpkjkdbijifbaaW.PrintLast Go.Proofs.YtbpkjkdbijifbaaW.PrintMore
attribute [local go_sem] max2_int min2_int max_two min_two max_three min_three max_four min_four   -- for this text's walks alone
set_option linter.unusedVariables false
set_option linter.unusedSimpArgs false

-- GIVEN: function 15 ((*undercroft/disk.Disk).Crash)
theorem C_turn1 {w w' : World} {A : Option Addr} {N : Nat} {xs : List Int} {S : Nat → Prop} (h : (Kd.int .u8).C w A N xs) (hA : ∀ ad, A = some ad → 0 < N → ¬ S ad.block ∧ ad.block < w.heap.size) (ht : X.Turn S w w') : (Kd.int .u8).C w' A N xs := by
  by_cases h0 : 0 < N
  · exact X.C_turn h (fun ad e => hA ad e h0) ht
  · exact ⟨h.1, h.2.1, fun h' => absurd h' h0⟩
theorem bit_f (l : List Int) (k : Nat) (hk : k ≤ 4000000000000000) : disk_bit.f l (k : Int) = some (X.bitAt l k) := by
  unfold disk_bit.f X.bitAt
  have e1 : (k : Int) / 8 = ((k / 8 : Nat) : Int) := by omega
  have e2 : (k : Int) % 8 = ((k % 8 : Nat) : Int) := by omega
  rw [X.and7 (by omega) (by omega), e1, e2]
  by_cases h : k / 8 < l.length
  · rw [if_pos (by omega), if_pos (by omega), if_pos (by omega), decide_eq_true h, Bool.true_and]
  · rw [if_neg (by omega), decide_eq_false h, Bool.false_and]
theorem tail_run (gb j : Nat) (hj : j < 4) (w : World) : (Instr.sliceAt 67 (.pointer (some ⟨gb, 1, none⟩)) (some (.int .i64 ((j : Int) * 64))) none none).run Try.prog w = .ok (.slice (some ⟨gb, 1 + 64 * j, none⟩) (256 - 64 * j) (256 - 64 * j)) w := by
  obtain ⟨i0, hi0, _, hsz, _⟩ := info_parts info5
  have hel : Try.prog.elem 67 = 5 := by simp [Program.elem, Try.underlying67]
  have hln : Try.prog.arrayLen 67 = 256 := by simp [Program.arrayLen, Try.underlying67]
  have hu : Try.prog.underlying 67 = some (.array (Try.prog.arrayLen 67) (Try.prog.elem 67)) := by rw [hel, hln]; exact Try.underlying67
  rw [run_sliceAt_array_l w 67 ⟨gb, 1, none⟩ hu .i64 _ (by omega) (by rw [hln]; omega), hel, hln]
  have e1 : ((j : Int) * 64).toNat = 64 * j := by omega
  have e3 : ¬ 256 = 64 * j := by omega
  simp [sizeOf, typeInfo, hi0, hsz, slicedAt, sliced, Result.andThen, e1, e3, Addr.add]
theorem part_run (gS b c j : Nat) (hj : j < 4) (hc : 256 ≤ c) (w : World) : (Instr.slice 22 (.slice (some ⟨gS, b, none⟩) 256 c) (some (.int .i64 ((j : Int) * 64))) (some (.int .i64 ((j : Int) * 64 + 64))) none).run Try.prog w = .ok (.slice (some ⟨gS, b + 64 * j, none⟩) 64 (c - 64 * j)) w := by
  obtain ⟨i0, hi0, _, hsz, _⟩ := info_parts info5
  have hel : Try.prog.elem 22 = 5 := by simp [Program.elem, Try.underlying22]
  have hu : Try.prog.underlying 22 = some (.slice (Try.prog.elem 22)) := by rw [hel]; exact Try.underlying22
  rw [run_slice_lh w 22 (some ⟨gS, b, none⟩) 256 c hu .i64 .i64 _ _ (by omega) (by omega) (by omega), hel]
  have e1 : ((j : Int) * 64).toNat = 64 * j := by omega
  have e2 : ((j : Int) * 64 + 64).toNat = 64 * j + 64 := by omega
  have e3 : ¬ c = 64 * j := by omega
  simp [sizeOf, typeInfo, hi0, hsz, sliced, Result.andThen, e1, e2, e3, Addr.add]
theorem disk_Crash_nil.calls (A : Option Addr) (m c : Nat) (w : World) : Calls Try.prog 15 #[.pointer none, .slice A m c] w fun e w' => e = .returned (.tuple #[]) ∧ w = w' := by
  go_enter Try.func15, Try.ntmps15
  go_wp2
  refine bodyPost_ret (results_none rfl _ _ _) rfl ?_
  exact ⟨rfl, rfl⟩
set_option maxHeartbeats 16000000 in
set_option maxRecDepth 100000 in
theorem disk_Crash.calls (p n : Nat) (F G : Nat → Prop) (s : X.DS) (A : Option Addr) (cb : Nat) (bits : List Int) (w : World) (h : X.PD w p F G n s) (hC : (Kd.int .u8).C w A bits.length bits) (hcb : bits.length ≤ cb) (hA : ∀ ad, A = some ad → 0 < bits.length → ¬ F ad.block ∧ ad.block < w.heap.size) (hpl : s.pend.length ≤ 500000000000) :
    Calls Try.prog 15 #[.pointer (some ⟨p, 0, none⟩), .slice A bits.length cb] w (UnitPost w p F G n (s.crash bits)) := by
  obtain ⟨sv, pv, gl, gg, fg, h⟩ := h
  have hn := h.ok.n2
  obtain ⟨gS, cS, hsv, _⟩ := Kd.R_form h.st (by rw [h.ok.len]; have := h.ok.n1; omega)
  rw [h.ok.len] at hsv
  subst hsv
  have hcS : 256 * n ≤ cS := (Kd.R_reads' h.st).2.1
  obtain ⟨A2, c2, e2⟩ := Kd.R_slice h.pd
  subst e2
  have hpl2 : (s.pend.map X.wcells).length = s.pend.length := List.length_map ..
  rw [hpl2] at h
  have hform : Aside0 (∀ k, k < s.pend.length → ∃ g, A2 = some ⟨g, 0, none⟩) := ⟨fun k hk => by
    obtain ⟨g, c', hv, _⟩ := Kd.R_form h.pd (by rw [hpl2]; omega)
    injection hv with hv
    exact ⟨g, hv⟩⟩
  have HM1 : Aside0 (X.PDr w p F G (.slice (some ⟨gS, 0, none⟩) (256 * n) cS) (.slice A2 s.pend.length c2) gl gg fg n ⟨X.crashTo s.bytes s.pend bits 0, s.pend, s.ghosts, s.set, s.left⟩) := ⟨h⟩
  have HTT : Aside0 (X.Turn F w w) := ⟨X.Turn.refl _ _⟩
  have HW := Aside0.mk h.ok.pend
  have HOK := Aside0.mk h.ok
  have HC := Aside0.mk hC
  have HA := Aside0.mk hA
  have cz1 := h.box.cell 1 _ rfl
  clear h hpl2 hC hA
  go_enter Try.func15, Try.ntmps15
  go_wp2_with fail
  clear cz1
  go_loopg [15] s.pend.length (fun gk v15 w' => ∃ i : Nat, v15 = .int .i64 (i : Int) ∧ Aside0 (gk + i = s.pend.length) ∧ Aside0 (X.PDr w' p F G (.slice (some ⟨gS, 0, none⟩) (256 * n) cS) (.slice A2 s.pend.length c2) gl gg fg n ⟨X.crashTo s.bytes s.pend bits i, s.pend, s.ghosts, s.set, s.left⟩) ∧ Aside0 (X.Turn F w w'))
  case atStart => exact ⟨0, rfl, ⟨by omega⟩, HM1, HTT⟩
  case round =>
    clear HM1 HTT
    obtain ⟨i, rfl, HK, HM, HT⟩ := hrel
    by_cases hlt : i < s.pend.length
    · have q0 : decide ((i : Int) < (s.pend.length : Int)) = true := decide_eq_true (by omega)
      have q00 : decide (i < s.pend.length) = true := decide_eq_true hlt
      obtain ⟨g, rfl⟩ := hform.out i hlt
      obtain ⟨x, hx⟩ : ∃ x, s.pend[i]? = some x := ⟨_, List.getElem?_eq_getElem hlt⟩
      have hxo := HW.out x (List.mem_of_getElem? hx)
      have hrange := X.pend_range HM.out.pd hx
      have HX := Aside0.mk hx
      have HXO := Aside0.mk hxo
      have HRG := Aside0.mk hrange
      obtain ⟨cx, hcx⟩ : ∃ cx, cx = X.wcells x := ⟨_, rfl⟩
      have HCX := Aside0.mk hcx
      have HCL : Aside0 (cx.length = 257) := ⟨by rw [hcx]; exact X.wcells_length hxo⟩
      have HC1 : Aside0 (∀ v ∈ cx, v.oneCell' = true) := ⟨by rw [hcx]; exact X.wcells_one x⟩
      rw [← hcx] at HRG
      clear hx hxo hrange hcx
      go_wp2_with (first | ((with_reducible refine gate_ (.load 69 (.tmp 18)) rfl ?_); (refine wpList_load_mid rfl 69 (.tmp 18) rfl g (i * 257) rfl cx _ HRG.out Try.underlying69 rfl (by rw [HCL.out]; exact info_write) ?_)) | ((with_reducible refine gate_ (.alloc 69) rfl ?_); (refine alloc_write zero_write rfl rfl 5 rfl ?_); intro gb hgb w2 hbx hbl; have HBX := Aside0.mk hbx; have HBL := Aside0.mk hbl; have HGB := Aside0.mk hgb; clear hbx hbl hgb) | ((with_reducible refine gate_ (.store 69 (.tmp 5) (.tmp 19)) rfl ?_); (refine X.store_box rfl 69 (.tmp 5) (.tmp 19) rfl gb zeroW cx.toArray rfl rfl HBX.out (by rw [zeroW_size, List.size_toArray, HCL.out]) (by rw [List.size_toArray, HCL.out]; exact info_write) (all_oneCell_toArray HC1.out) ?_); intro w3 hb3 ht3; clear HBX; have HBX := Aside0.mk hb3; have HT3_ := Aside0.mk ht3; clear hb3 ht3))
      rw [HCX.out] at HBX
      have hB3 : Below wr.heap.size wr w3 := HBL.out.trans (HT3_.out.below (fun k hk => by have e : k = gb := hk; rw [e, HGB.out]; exact Nat.le_refl _) HBL.out.size)
      have HM2 := Aside0.mk (HM.out.below hB3)
      have HT2 := Aside0.mk (HT.out.trans (X.Turn.of_below (S := F) hB3) (fun _ hk => .inl hk))
      have HCN : Aside0 (X.crashTo s.bytes s.pend bits (i + 1) = X.sectTo (X.crashTo s.bytes s.pend bits i) x i bits 4) := ⟨by rw [X.crashTo, HX.out]⟩
      clear HM HT HBL HT3_ HGB hB3 HRG
      obtain ⟨B, hB⟩ : ∃ B, B = X.crashTo s.bytes s.pend bits i := ⟨_, rfl⟩
      rw [← hB] at HM2 HCN
      clear hB
      go_wp2_with fail
      obtain ⟨k0, rfl⟩ : ∃ k0, gk = k0 + 1 := ⟨gk - 1, by have := HK.out; omega⟩
      go_loopg [20] 4 (fun gk2 v20 w' => ∃ j : Nat, v20 = .int .i64 (j : Int) ∧ Aside0 (gk2 + j = 4) ∧ Aside0 (X.PDr w' p F G (.slice (some ⟨gS, 0, none⟩) (256 * n) cS) (.slice (some ⟨g, 0, none⟩) s.pend.length c2) gl gg fg n ⟨X.sectTo B x i bits j, s.pend, s.ghosts, s.set, s.left⟩) ∧ Aside0 (X.Turn F w w') ∧ Aside0 (X.Blk w' gb (X.wcells x).toArray 69))
      case atStart => exact ⟨0, rfl, ⟨rfl⟩, HM2, HT2, HBX⟩
      case round =>
        clear HM2 HT2 HBX
        obtain ⟨j, rfl, HK2, HM, HT, HBX⟩ := hrel
        by_cases hj : j < 4
        · have q1 : decide ((j : Int) < 4) = true := decide_eq_true (by omega)
          have q2 : decide (j < 4) = true := decide_eq_true hj
          have HCW := Aside0.mk (C_turn1 HC.out HA.out HT.out)
          have hw1 : IntKind.i64.wrap (4 * (i : Int)) = 4 * (i : Int) := IntWalk.i64_in _ (by omega)
          have hw2 : IntKind.i64.wrap (4 * (i : Int) + (j : Int)) = 4 * (i : Int) + (j : Int) := IntWalk.i64_in _ (by omega)
          have HBC := Aside0.mk (disk_bit.calls A cb bits (4 * (i : Int) + (j : Int)) (X.bitAt bits (4 * i + j)) wr HCW.out hcb (by have := bit_f bits (4 * i + j) (by omega); rw [← this]; congr 1))
          rcases hbit : X.bitAt bits (4 * i + j) with _ | _
          · rw [hbit] at HBC
            have HSN : Aside0 (X.sectTo B x i bits (j + 1) = X.sectTo B x i bits j) := ⟨by rw [X.sectTo, hbit]; rfl⟩
            clear hbit
            go_wp2_with ((go_at_call 37; refine HBC.out.mono ?_); rintro e w' ⟨rfl, hd⟩)
            have HD : Aside0 (Below wr.heap.size wr w') := ⟨by obtain ⟨n_, rfl⟩ := hd.out; exact pw_below_drewN (Below.refl _ _) n_⟩
            clear hd
            cases gk with
            | zero => exact absurd HK2.out (by omega)
            | succ k2 =>
              go_roundg k2
              case measure => omega
              case rel => exact ⟨j + 1, by go_num, ⟨by have := HK2.out; omega⟩, ⟨by rw [HSN.out]; exact HM.out.below HD.out⟩, ⟨HT.out.trans (X.Turn.of_below (S := F) HD.out) (fun _ h => .inl h)⟩, ⟨HBX.out.below HD.out HBX.out.lt⟩⟩
          · rw [hbit] at HBC
            have HSN : Aside0 (X.sectTo B x i bits (j + 1) = X.lay (X.sectTo B x i bits j) (256 * x.1 + 64 * j) ((x.2.drop (64 * j)).take 64)) := ⟨by rw [X.sectTo, hbit]; rfl⟩
            clear hbit
            go_wp2_with ((go_at_call 37; refine HBC.out.mono ?_); rintro e w6 ⟨rfl, hd⟩; have HD : Aside0 (Below wr.heap.size wr w6) := ⟨by obtain ⟨n_, rfl⟩ := hd.out; exact pw_below_drewN (Below.refl _ _) n_⟩; clear hd)
            have HM0 := Aside0.mk (HM.out.below HD.out)
            have HT0 := Aside0.mk (HT.out.trans (X.Turn.of_below (S := F) HD.out) (fun _ h => .inl h))
            have HBX0 := Aside0.mk (HBX.out.below HD.out HBX.out.lt)
            clear HM HT HBX HD HBC HCW
            have HM := HM0
            have HT := HT0
            have HBX := HBX0
            clear HM0 HT0 HBX0
            have htl := tail_run gb j hj
            have hpt := part_run gS (256 * x.1) (cS - 256 * x.1) j hj (by have := HXO.out.1; omega)
            have hw3 : IntKind.i64.wrap ((j : Int) * 64 + 64) = (j : Int) * 64 + 64 := IntWalk.i64_in _ (by omega)
            have hw4 : wrap64 ((j : Int) * 64 + 64) = (j : Int) * 64 + 64 := by rw [← i64_w]; exact hw3
            refine start_ (n := 12) (S := (fun w' => w'.cell? ⟨gb, 0, none⟩ = some (.int .i64 (x.1 : Int)))) (ds := [11]) #[false, false, false, false, false, false, false, false, false, false, false, false] (by kernel_rfl) rfl rfl (HBX.out.cell 0 _ rfl) (fun hHeld => ?_)
            have HM3 := Aside0.mk (HM.out.below (below_drew1 (Below.refl _ _)))
            have HBX3 := Aside0.mk (HBX.out.below (below_drew1 (Below.refl _ _)) HBX.out.lt)
            have HT3 := Aside0.mk (HT.out.trans (X.Turn.of_below (S := F) (below_drew1 (Below.refl _ _))) (fun _ hk => .inl hk))
            generalize World.drew _ = w4 at *
            clear HM HT HBX
            refine pure_ (i := 0) (N := some 31) (v := ?_) (a' := ?_) #[true, false, false, false, false, false, false, false, false, false, false, false] rfl rfl (by kernel_rfl) (fun _ _ _ h => h) (Or.inl ⟨by rfl, ?_⟩) ?_ ?_
            rotate_left
            · intro w' 
              go_simp
              with_reducible rfl
            rotate_left
            · simp only [Act.put, List.setIfInBounds_toArray, List.set_cons_zero, List.set_cons_succ, i64_w, i32_w]
              rfl
            refine pure_ (i := 1) (N := some 32) (v := ?_) (a' := ?_) #[true, true, false, false, false, false, false, false, false, false, false, false] rfl rfl (by kernel_rfl) (fun _ _ _ h => h) (Or.inl ⟨by rfl, ?_⟩) ?_ ?_
            rotate_left
            · intro w' 
              go_simp
              with_reducible rfl
            rotate_left
            · simp only [Act.put, List.setIfInBounds_toArray, List.set_cons_zero, List.set_cons_succ, i64_w, i32_w]
              rfl
            refine take_ (i := 2) (N := some 33) (v := ?_) (a' := ?_) #[true, true, true, false, false, false, false, false, false, false, false, false] rfl rfl (by kernel_rfl) (fun _ _ _ h => h) (Or.inl ⟨by rfl, ?_⟩) hHeld ?_ ?_
            rotate_left
            · intro w' hs_
              obtain hs0 := hs_
              go_simp
              with_reducible rfl
            rotate_left
            · simp only [Act.put, List.setIfInBounds_toArray, List.set_cons_zero, List.set_cons_succ, i64_w, i32_w]
              rfl
            refine pure_ (i := 4) (N := some 35) (v := ?_) (a' := ?_) #[true, true, true, false, true, false, false, false, false, false, false, false] rfl rfl (by kernel_rfl) (fun _ _ _ h => h) (Or.inl ⟨by rfl, ?_⟩) ?_ ?_
            rotate_left
            · intro w' 
              go_simp
              with_reducible rfl
            rotate_left
            · simp only [Act.put, List.setIfInBounds_toArray, List.set_cons_zero, List.set_cons_succ, i64_w, i32_w]
              rfl
            refine pure_ (i := 5) (N := some 36) (v := ?_) (a' := ?_) #[true, true, true, false, true, true, false, false, false, false, false, false] rfl rfl (by kernel_rfl) (fun _ _ _ h => h) (Or.inl ⟨by rfl, ?_⟩) ?_ ?_
            rotate_left
            · intro w' 
              go_simp
              with_reducible rfl
            rotate_left
            · simp only [Act.put, List.setIfInBounds_toArray, List.set_cons_zero, List.set_cons_succ, i64_w, i32_w]
              rfl
            refine pure_ (i := 6) (N := some 37) (v := ?_) (a' := ?_) #[true, true, true, false, true, true, true, false, false, false, false, false] rfl rfl (by kernel_rfl) (fun _ _ _ h => h) (Or.inl ⟨by rfl, ?_⟩) ?_ ?_
            rotate_left
            · intro w' 
              go_simp
              with_reducible rfl
            rotate_left
            · simp only [Act.put, List.setIfInBounds_toArray, List.set_cons_zero, List.set_cons_succ, i64_w, i32_w]
              rfl
            refine pure_ (i := 8) (N := some 39) (v := ?_) (a' := ?_) #[true, true, true, false, true, true, true, false, true, false, false, false] rfl rfl (by kernel_rfl) (fun _ _ _ h => h) (Or.inl ⟨by rfl, ?_⟩) ?_ ?_
            rotate_left
            · intro w' 
              go_simp
              with_reducible rfl
            rotate_left
            · simp only [Act.put, List.setIfInBounds_toArray, List.set_cons_zero, List.set_cons_succ, i64_w, i32_w]
              rfl
            refine pure_ (i := 9) (N := some 40) (v := ?_) (a' := ?_) #[true, true, true, false, true, true, true, false, true, true, false, false] rfl rfl (by kernel_rfl) (fun _ _ _ h => h) (Or.inl ⟨by rfl, ?_⟩) ?_ ?_
            rotate_left
            · intro w' 
              go_simp
              with_reducible rfl
            rotate_left
            · simp only [Act.put, List.setIfInBounds_toArray, List.set_cons_zero, List.set_cons_succ, i64_w, i32_w]
              rfl
            refine pure_ (i := 10) (N := some 41) (v := ?_) (a' := ?_) #[true, true, true, false, true, true, true, false, true, true, true, false] rfl rfl (by kernel_rfl) (fun _ _ _ h => h) (Or.inl ⟨by rfl, ?_⟩) ?_ ?_
            rotate_left
            · intro w' 
              go_simp
              with_reducible rfl
            rotate_left
            · simp only [Act.put, List.setIfInBounds_toArray, List.set_cons_zero, List.set_cons_succ, i64_w, i32_w]
              rfl
            refine one_ (i := 3) (N := some 34) #[true, true, true, true, true, true, true, false, true, true, true, false] rfl rfl (by kernel_rfl) (by decide) (fun K hK => ?_)
            refine goes_ Try.func38 (by kernel_rfl) rfl #[.pointer (some ⟨p, 0, none⟩), .int .i64 (x.1 : Int)] (by rfl) rfl rfl (by (try simp only [List.map_toArray, List.map_cons, List.map_nil]); first | done | rfl) ?_
            refine (disk_at.calls p gS n cS x.1 _ _ _ _ _ w4 HM3.out.box hn HXO.out.1 hcS).mono ?_
            rintro e w' ⟨rfl, rfl⟩
            refine ⟨_, rfl, ?_⟩
            refine hK.out _ _ hHeld (fun hHeld => ?_)
            clear hK K
            refine norm_ (a' := ?_) ?_ ?_
            rotate_left
            · show Act.put _ (some 34) _ = _
              simp only [Act.put, List.setIfInBounds_toArray, List.set_cons_zero, List.set_cons_succ, i64_w, i32_w]
              rfl
            refine pure_ (i := 7) (N := some 38) (v := ?_) (a' := ?_) #[true, true, true, true, true, true, true, true, true, true, true, false] rfl rfl (by kernel_rfl) (fun _ _ _ h => h) (Or.inl ⟨by rfl, ?_⟩) ?_ ?_
            rotate_left
            · intro w' 
              go_simp
              with_reducible rfl
            rotate_left
            · simp only [Act.put, List.setIfInBounds_toArray, List.set_cons_zero, List.set_cons_succ, i64_w, i32_w]
              rfl
            refine last_ (i := 11) (N := some 42) #[true, true, true, true, true, true, true, true, true, true, true, true] rfl rfl (by kernel_rfl) (by decide) (fun K hK => ?_)
            refine X.copy_step_cut (P := Try.prog) (w0 := w4) .u8 0 (by rfl) rfl (.tmp 38) (.tmp 41) 22 22 5 rfl Try.underlying22 (by obtain ⟨i, hi, _, hs, _⟩ := info_parts info5; rw [hi]; exact congrArg some hs) gS (256 * n) cS (256 * x.1 + 64 * j) 64 _ (some ⟨gb, 1 + 64 * j, none⟩) (256 - 64 * j) _ _ (x.2.drop (64 * j)) F (by rfl) (by rfl) HM3.out.st (X.C_tail (X.box_C HBX3.out HXO.out.2.1) (by omega)) (by omega) (by have := HXO.out.1; omega) (Below.refl 0 w4) (Nat.zero_le _) ?_
            intro w5 hr5 hb5 hg5
            have hlo := X.lay_at_ok HM3.out.ok.len HM3.out.ok.u8 (ys := (x.2.drop (64 * j)).take 64) (j := 256 * x.1 + 64 * j) (X.u8all_take (X.u8all_drop HXO.out.2.2 _) _) (by have := HXO.out.1; have := HXO.out.2.1; rw [List.length_take, List.length_drop]; omega)
            have HM5 := Aside0.mk (HM3.out.stabled hr5 hg5 (hlo.1.trans HM3.out.ok.len.symm) hlo.2)
            have HT5 := Aside0.mk (HT3.out.trans ((X.Turn.grown hg5).mono (S' := F) (fun k hk => HM3.out.st.1 k (Eq.symm hk))) (fun _ h => .inl h))
            have HBX5 : Aside0 (X.Blk w5 gb (X.wcells x).toArray 69) := ⟨(hg5.block gb HBX3.out.lt (Kd.R_ne HM3.out.st HBX3.out (by decide))).trans HBX3.out⟩
            clear hr5 hb5 hg5 hlo HM3 HT3 HBX3 hHeld
            refine hK.out _ _ ?_
            clear hK K
            refine done_ (by kernel_rfl) ?_
            go_wp2
            cases gk with
            | zero => exact absurd HK2.out (by omega)
            | succ k2 =>
              go_roundg k2
              case measure => omega
              case rel => exact ⟨j + 1, by go_num, ⟨by have := HK2.out; omega⟩, ⟨by rw [HSN.out]; exact HM5.out⟩, HT5, HBX5⟩
        · have q1 : decide ((j : Int) < 4) = false := decide_eq_false (by omega)
          have q2 : decide (j < 4) = false := decide_eq_false hj
          obtain rfl : j = 4 := by have := HK2.out; omega
          rw [← HCN.out] at HM
          go_wp2
          go_roundg k0
          case measure => omega
          case rel => exact ⟨i + 1, by go_num, ⟨by have := HK.out; omega⟩, HM, HT⟩
    · have q0 : decide ((i : Int) < (s.pend.length : Int)) = false := decide_eq_false (by omega)
      have q00 : decide (i < s.pend.length) = false := decide_eq_false hlt
      obtain rfl : i = s.pend.length := by have := HK.out; omega
      go_wp2_with ((go_at_call 39; (with_reducible refine (disk_keep.calls p n F G _ _ (.slice none 0 0) gl gg fg _ [] _ HM.out (Kd.R_nil _ _ _ _ _) (by simp)).mono ?_); rintro e w9 ⟨rfl, hm9, ht9⟩; have HM9 := Aside0.mk hm9; have HT9 := Aside0.mk ht9; have cz3 := hm9.box.cell 3 _ rfl; obtain ⟨w10, hrun10, hm10, hg10⟩ := hm9.gh.clear Try.underlying64 0; have HM10 := Aside0.mk (hm9.cleared hm10 hg10); have HG10 := Aside0.mk hg10; have cz4 := HM10.out.box.cell 4 _ rfl; have cz5 := HM10.out.box.cell 5 _ rfl; have fz4 := HM10.out.box.free 4; have fz5 := HM10.out.box.free 5; clear hm9 ht9 hm10 hg10))
      go_end0
      have hT1 := (X.Turn.setCell w10 ⟨p, 4, none⟩ (.bool false)).trans (X.Turn.setCell _ ⟨p, 5, none⟩ (.int .i64 0)) (fun _ h => .inl h)
      have hB1 := (HM10.out.box.set 4 (.bool false)).set 5 (.int .i64 0)
      have hfin := HM10.out.reboxed hT1 (pv' := .slice none 0 0) (s' := ⟨X.crashTo s.bytes s.pend bits s.pend.length, [], [], false, 0⟩) hB1 rfl rfl (Kd.R_nil _ _ _ _ _) ⟨HM10.out.ok.len, HM10.out.ok.n1, HM10.out.ok.n2, HM10.out.ok.u8, fun _ hx => (nomatch hx), fun _ hx => (nomatch hx), Nat.zero_le _⟩
      have hTf : X.Turn F w ((w10.setCell ⟨p, 4, none⟩ (.bool false)).setCell ⟨p, 5, none⟩ (.int .i64 0)) := ((HT.out.trans HT9.out (fun _ h => .inl h)).trans ((X.Turn.grown HG10.out).mono (S' := F) (fun k hk => by
        have e : some k = some gg := hk
        injection e with e
        rw [e]
        exact HM9.out.fgg)) (fun _ h => .inl h)).trans (hT1.mono (S' := F) (fun k hk => by
        have e : k = p := hk
        rw [e]
        exact HM9.out.fp)) (fun _ h => .inl h)
      unfold UnitPost X.DS.crash
      exact ⟨rfl, F, G, ⟨_, _, _, _, _, hfin⟩, hTf, fun _ h => .inl h, fun _ h => .inl h⟩
theorem disk_Crash.part (w0 w : World) (L : List X.Res) (p n : Nat) (s : X.DS) (A : Option Addr) (c : Nat) (bits : List Int) (h : X.Lies w0 w (.disk p n s :: L)) (hr : X.Rd w0 L fun w' => (Kd.int .u8).C w' A bits.length bits) (hc : bits.length ≤ c) (hpl : s.pend.length ≤ 500000000000) :
    Calls Try.prog 15 #[.pointer (some ⟨p, 0, none⟩), .slice A bits.length c] w fun e w' => e = .returned (.tuple #[]) ∧ X.Lies w0 w' (.disk p n (s.crash bits) :: L) := by
  obtain ⟨F, G, hp, hd, ha⟩ := h.disk
  have hC := hr w h.tail
  refine (disk_Crash.calls p n F G s A c bits w hp hC hc (fun ad e h0 => ⟨ha A _ bits hr ad e h0, by subst e; exact X.u8_lt hC h0⟩) hpl).mono ?_
  rintro e w' ⟨rfl, h2⟩
  exact ⟨rfl, hd _ _ h2⟩

end Go.Proofs.Ytbpkjkdbijifbaa.U
