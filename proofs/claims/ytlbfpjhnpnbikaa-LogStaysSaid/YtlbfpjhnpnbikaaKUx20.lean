/- Ux20: what this claim uses. Laid by slim.py (ours). -/
import Derived.Test.YtlbfpjhnpnbikaaKUx0
import Derived.Test.YtlbfpjhnpnbikaaKUx1
import Derived.Test.YtlbfpjhnpnbikaaKUx10
import Derived.Test.YtlbfpjhnpnbikaaKUx19
namespace Go.Proofs.Ytlbfpjhnpnbikaa.U
open Go.RowKit Go.Proofs.YtlbfpjhnpnbikaaW.PrintWords Go.Proofs.YtlbfpjhnpnbikaaW.PrintLast Go.Proofs.YtlbfpjhnpnbikaaW.PrintMore
attribute [local go_sem] max2_int min2_int max_two min_two max_three min_three max_four min_four
set_option linter.unusedVariables false
set_option linter.unusedSimpArgs false
def UnitPost (w : World) (p : Nat) (F G : Nat → Prop) (n : Nat) (s : X.DS) (e : Ending) (w' : World) : Prop := e = .returned (.tuple #[]) ∧ X.Did w w' p F G n s
set_option maxHeartbeats 8000000 in
set_option maxRecDepth 100000 in
theorem disk_Flush.calls (p n : Nat) (F G : Nat → Prop) (s : X.DS) (w : World) (h : X.PD w p F G n s) :
    Calls Try.prog 52 #[.pointer (some ⟨p, 0, none⟩)] w (UnitPost w p F G n s.flush) := by
  obtain ⟨sv, pv, gl, gg, fg, h⟩ := h
  have hn := h.ok.n2
  by_cases hbl : (s.set && decide (s.left = 0)) = true
  · have HP := Aside0.mk h
    have HBL := Aside0.mk hbl
    have HE : Aside0 (s.flush = s) := ⟨by unfold X.DS.flush; rw [if_pos hbl]⟩
    clear h hbl
    go_enter Try.func52, Try.ntmps52
    go_wp2_with ((go_at_call 36; (with_reducible refine (disk_spend_no.calls p _ _ _ _ s.set s.left _ HP.out.box HBL.out).mono ?_); rintro e w' ⟨rfl, rfl⟩))
    refine bodyPost_ret (results_none rfl _ _ _) rfl ?_
    refine ⟨rfl, ?_⟩
    rw [HE.out]
    exact ⟨F, G, ⟨_, _, _, _, _, HP.out⟩, X.Turn.refl _ _, fun _ h => .inl h, fun _ h => .inl h⟩
  have hbf := Bool.eq_false_iff.2 hbl
  obtain ⟨gS, cS, hsv, _⟩ := Kd.R_form h.st (by rw [h.ok.len]; have := h.ok.n1; omega)
  rw [h.ok.len] at hsv
  subst hsv
  have hcS : 256 * n ≤ cS := (Kd.R_reads' h.st).2.1
  obtain ⟨A2, c2, e2⟩ := Kd.R_slice h.pd
  subst e2
  have hpl2 : (s.pend.map X.wcells).length = s.pend.length := List.length_map ..
  rw [hpl2] at h
  have hform : Aside0 (∀ k, k < s.pend.length → ∃ g, A2 = some ⟨g, 0, none⟩) := ⟨fun k hk => by
    obtain ⟨g, c', hv, _⟩ := Kd.R_form h.pd (by rw [hpl2]; omega)
    injection hv with hv
    exact ⟨g, hv⟩⟩
  have hlen : s.pend.length ≤ 9223372036854775807 := by
    have := (Kd.R_reads' h.pd).2.2.2.1
    rw [hpl2] at this
    exact this
  have HP := Aside0.mk h
  have HBL := Aside0.mk hbf
  clear h hbl hbf hpl2
  go_enter Try.func52, Try.ntmps52
  have HPL : Aside0 (∀ w1, X.Blk w1 p #[.slice (some ⟨gS, 0, none⟩) (256 * n) cS, .slice A2 s.pend.length c2, .map (some gl), .map (some gg), .bool s.set, .int .i64 (spentL s.set s.left : Int)] 83 → X.Turn (fun k => k = p) w w1 → X.PDr w1 p F G (.slice (some ⟨gS, 0, none⟩) (256 * n) cS) (.slice A2 s.pend.length c2) gl gg fg n { s with left := spentL s.set s.left }) := ⟨fun w1 hb1 ht1 => HP.out.reboxed ht1 (s' := { s with left := spentL s.set s.left }) hb1 rfl rfl HP.out.pd ⟨HP.out.ok.len, HP.out.ok.n1, HP.out.ok.n2, HP.out.ok.u8, HP.out.ok.pend, HP.out.ok.ghosts, by have := HP.out.ok.left; show spentL s.set s.left ≤ _; unfold spentL; split <;> omega⟩⟩
  go_wp2_with ((go_at_call 36; (with_reducible refine (disk_spend.calls p _ _ _ _ s.set s.left _ HP.out.box HBL.out HP.out.ok.left).mono ?_); rintro e w1 ⟨rfl, hb1, ht1⟩; have HB1 := Aside0.mk hb1; have HT1 := Aside0.mk ht1; have cz1 := hb1.cell 1 _ rfl; clear hb1 ht1))
  have HM1 := Aside0.mk (HPL.out w1 HB1.out HT1.out)
  have HTT : Aside0 (X.Turn F w w1) := ⟨HT1.out.mono (fun k hk => by have e : k = p := hk; rw [e]; exact HP.out.fp)⟩
  have HW := Aside0.mk HP.out.ok.pend
  clear HB1 HT1 HP HPL cz1
  obtain ⟨l1, hl1⟩ : ∃ l1, l1 = spentL s.set s.left := ⟨_, rfl⟩
  rw [← hl1] at HM1
  have HL1 := Aside0.mk hl1
  clear hl1
  go_loopg [16] s.pend.length (fun gk v16 w' => ∃ i : Nat, v16 = .int .i64 (i : Int) ∧ Aside0 (gk + i = s.pend.length) ∧ Aside0 (X.PDr w' p F G (.slice (some ⟨gS, 0, none⟩) (256 * n) cS) (.slice A2 s.pend.length c2) gl gg fg n ⟨X.laysTo s.bytes (s.pend.take i), s.pend, s.ghosts, s.set, l1⟩) ∧ Aside0 (X.Turn F w w'))
  case atStart => exact ⟨0, rfl, ⟨by omega⟩, HM1, HTT⟩
  case round =>
    clear HM1 HTT
    obtain ⟨i, rfl, HK, HM, HT⟩ := hrel
    by_cases hlt : i < s.pend.length
    · have q0 : decide ((i : Int) < (s.pend.length : Int)) = true := decide_eq_true (by omega)
      have q00 : decide (i < s.pend.length) = true := decide_eq_true hlt
      obtain ⟨g, rfl⟩ := hform.out i hlt
      obtain ⟨x, hx⟩ : ∃ x, s.pend[i]? = some x := ⟨_, List.getElem?_eq_getElem hlt⟩
      have hxo := HW.out x (List.mem_of_getElem? hx)
      have hrange := X.pend_range HM.out.pd hx
      have HX := Aside0.mk hx
      have HXO := Aside0.mk hxo
      have HRG := Aside0.mk hrange
      obtain ⟨cx, hcx⟩ : ∃ cx, cx = X.wcells x := ⟨_, rfl⟩
      have HCX := Aside0.mk hcx
      have HCL : Aside0 (cx.length = 257) := ⟨by rw [hcx]; exact X.wcells_length hxo⟩
      have HC1 : Aside0 (∀ v ∈ cx, v.oneCell' = true) := ⟨by rw [hcx]; exact X.wcells_one x⟩
      rw [← hcx] at HRG
      clear hx hxo hrange hcx
      go_wp2_with (first | ((with_reducible refine gate_ (.load 86 (.tmp 18)) rfl ?_); (refine wpList_load_mid rfl 86 (.tmp 18) rfl g (i * 257) rfl cx _ HRG.out Try.underlying86 rfl (by rw [HCL.out]; exact info_write) ?_)) | ((with_reducible refine gate_ (.alloc 86) rfl ?_); (refine alloc_write zero_write rfl rfl 3 rfl ?_); intro gb hgb w2 hbx hbl; have HBX := Aside0.mk hbx; have HBL := Aside0.mk hbl; have HGB := Aside0.mk hgb; clear hbx hbl hgb) | ((with_reducible refine gate_ (.store 86 (.tmp 3) (.tmp 19)) rfl ?_); (refine X.store_box rfl 86 (.tmp 3) (.tmp 19) rfl gb zeroW cx.toArray rfl rfl HBX.out (by rw [zeroW_size, List.size_toArray, HCL.out]) (by rw [List.size_toArray, HCL.out]; exact info_write) (all_oneCell_toArray HC1.out) ?_); intro w3 hb3 ht3; clear HBX; have HBX := Aside0.mk hb3; have HT3_ := Aside0.mk ht3; clear hb3 ht3))
      rw [HCX.out] at HBX
      have hB3 : Below wr.heap.size wr w3 := HBL.out.trans (HT3_.out.below (fun k hk => by have e : k = gb := hk; rw [e, HGB.out]; exact Nat.le_refl _) HBL.out.size)
      have HM2 := Aside0.mk (HM.out.below hB3)
      have HT2 := Aside0.mk (HT.out.trans (X.Turn.of_below (S := F) hB3) (fun _ hk => .inl hk))
      clear HM HT HBL HT3_ HGB hB3 HRG
      go_wp2_with fail
      refine start_ (n := 7) (S := (fun w' => w'.cell? ⟨gb, 0, none⟩ = some (.int .i64 (x.1 : Int)))) (ds := [6]) #[false, false, false, false, false, false, false] (by kernel_rfl) rfl rfl (HBX.out.cell 0 _ rfl) (fun hHeld => ?_)
      have HM3 := Aside0.mk (HM2.out.below (below_drew1 (Below.refl _ _)))
      have HBX3 := Aside0.mk (HBX.out.below (below_drew1 (Below.refl _ _)) HBX.out.lt)
      have HT3 := Aside0.mk (HT2.out.trans (X.Turn.of_below (S := F) (below_drew1 (Below.refl _ _))) (fun _ hk => .inl hk))
      generalize World.drew _ = w4 at *
      clear HM2 HT2 HBX
      refine pure_ (i := 0) (N := some 20) (v := ?_) (a' := ?_) #[true, false, false, false, false, false, false] rfl rfl (by kernel_rfl) (fun _ _ _ h => h) (Or.inl ⟨by rfl, ?_⟩) ?_ ?_
      rotate_left
      · intro w'
        go_simp
        with_reducible rfl
      rotate_left
      · simp only [Act.put, List.setIfInBounds_toArray, List.set_cons_zero, List.set_cons_succ, i64_w, i32_w]
        rfl
      refine pure_ (i := 1) (N := some 21) (v := ?_) (a' := ?_) #[true, true, false, false, false, false, false] rfl rfl (by kernel_rfl) (fun _ _ _ h => h) (Or.inl ⟨by rfl, ?_⟩) ?_ ?_
      rotate_left
      · intro w'
        go_simp
        with_reducible rfl
      rotate_left
      · simp only [Act.put, List.setIfInBounds_toArray, List.set_cons_zero, List.set_cons_succ, i64_w, i32_w]
        rfl
      refine take_ (i := 2) (N := some 22) (v := ?_) (a' := ?_) #[true, true, true, false, false, false, false] rfl rfl (by kernel_rfl) (fun _ _ _ h => h) (Or.inl ⟨by rfl, ?_⟩) hHeld ?_ ?_
      rotate_left
      · intro w' hs_
        obtain hs0 := hs_
        go_simp
        with_reducible rfl
      rotate_left
      · simp only [Act.put, List.setIfInBounds_toArray, List.set_cons_zero, List.set_cons_succ, i64_w, i32_w]
        rfl
      refine pure_ (i := 4) (N := some 24) (v := ?_) (a' := ?_) #[true, true, true, false, true, false, false] rfl rfl (by kernel_rfl) (fun _ _ _ h => h) (Or.inl ⟨by rfl, ?_⟩) ?_ ?_
      rotate_left
      · intro w'
        go_simp
        with_reducible rfl
      rotate_left
      · simp only [Act.put, List.setIfInBounds_toArray, List.set_cons_zero, List.set_cons_succ, i64_w, i32_w]
        rfl
      refine pure_ (i := 5) (N := some 25) (v := ?_) (a' := ?_) #[true, true, true, false, true, true, false] rfl rfl (by kernel_rfl) (fun _ _ _ h => h) (Or.inl ⟨by rfl, ?_⟩) ?_ ?_
      rotate_left
      · intro w'
        go_simp
        with_reducible rfl
      rotate_left
      · simp only [Act.put, List.setIfInBounds_toArray, List.set_cons_zero, List.set_cons_succ, i64_w, i32_w]
        rfl
      refine one_ (i := 3) (N := some 23) #[true, true, true, true, true, true, false] rfl rfl (by kernel_rfl) (by decide) (fun K hK => ?_)
      refine goes_ Try.func66 (by kernel_rfl) rfl #[.pointer (some ⟨p, 0, none⟩), .int .i64 (x.1 : Int)] (by rfl) rfl rfl (by (try simp only [List.map_toArray, List.map_cons, List.map_nil]); first | done | rfl) ?_
      refine (disk_at.calls p gS n cS x.1 _ _ _ _ _ w4 HM3.out.box hn HXO.out.1 hcS).mono ?_
      rintro e w' ⟨rfl, rfl⟩
      refine ⟨_, rfl, ?_⟩
      refine hK.out _ _ hHeld (fun hHeld => ?_)
      clear hK K
      refine norm_ (a' := ?_) ?_ ?_
      rotate_left
      · show Act.put _ (some 23) _ = _
        simp only [Act.put, List.setIfInBounds_toArray, List.set_cons_zero, List.set_cons_succ, i64_w, i32_w]
        rfl
      refine last_ (i := 6) (N := some 26) #[true, true, true, true, true, true, true] rfl rfl (by kernel_rfl) (by decide) (fun K hK => ?_)
      refine X.copy_step (P := Try.prog) (w0 := w4) .u8 0 (by rfl) rfl (.tmp 23) (.tmp 25) 22 22 5 rfl Try.underlying22 (by obtain ⟨i, hi, _, hs, _⟩ := info_parts info5; rw [hi]; exact congrArg some hs) gS (256 * n) cS (256 * x.1) 256 (cS - 256 * x.1) (some ⟨gb, 1, none⟩) 256 256 _ x.2 F (by rfl) (by rfl) HM3.out.st (X.box_C HBX3.out HXO.out.2.1) (by omega) (by have := HXO.out.1; omega) (Below.refl 0 w4) (Nat.zero_le _) ?_
      intro w5 hr5 hb5 hg5
      have hlo := X.lay_ok HM3.out.ok.len HM3.out.ok.u8 HXO.out
      have HM5 := Aside0.mk (HM3.out.stabled hr5 hg5 (hlo.1.trans HM3.out.ok.len.symm) hlo.2)
      have HT5 := Aside0.mk (HT3.out.trans ((X.Turn.grown hg5).mono (S' := F) (fun k hk => HM3.out.st.1 k (Eq.symm hk))) (fun _ h => .inl h))
      have HBX5 : Aside0 (X.Blk w5 gb (X.wcells x).toArray 86) := ⟨(hg5.block gb HBX3.out.lt (Kd.R_ne HM3.out.st HBX3.out (by decide))).trans HBX3.out⟩
      clear hr5 hb5 hg5 hlo HM3 HT3 HBX3 hHeld
      refine hK.out _ _ ?_
      clear hK K
      refine done_ (by kernel_rfl) ?_
      go_wp2
      cases gk with
      | zero => exact absurd HK.out (by omega)
      | succ k1 =>
        go_roundg k1
        case measure => omega
        case rel => exact ⟨i + 1, by go_num, ⟨by have := HK.out; omega⟩, ⟨by rw [X.take_snoc HX.out, X.laysTo_snoc]; exact HM5.out⟩, HT5⟩
    · have q0 : decide ((i : Int) < (s.pend.length : Int)) = false := decide_eq_false (by omega)
      have q00 : decide (i < s.pend.length) = false := decide_eq_false hlt
      have HI : Aside0 (s.pend.take i = s.pend) := ⟨List.take_of_length_le (by omega)⟩
      rw [HI.out] at HM
      go_wp2_with ((go_at_call 72; (with_reducible refine (disk_keep.calls p n F G _ _ (.slice none 0 0) gl gg fg _ [] _ HM.out (Kd.R_nil _ _ _ _ _) (by simp)).mono ?_); rintro e w9 ⟨rfl, hm9, ht9⟩; have HM9 := Aside0.mk hm9; have HT9 := Aside0.mk ht9; clear hm9 ht9))
      go_end0
      have e : s.flush = ⟨X.laysTo s.bytes s.pend, [], s.ghosts, s.set, l1⟩ := by
        unfold X.DS.flush
        rw [if_neg (by rw [HBL.out]; decide), HL1.out]
        rfl
      unfold UnitPost
      rw [e]
      exact ⟨rfl, F, G, ⟨_, _, _, _, _, HM9.out⟩, HT.out.trans HT9.out (fun _ h => .inl h), fun _ h => .inl h, fun _ h => .inl h⟩
theorem disk_Flush.part (w0 w : World) (L : List X.Res) (p n : Nat) (s : X.DS) (h : X.Lies w0 w (.disk p n s :: L)) :
    Calls Try.prog 52 #[.pointer (some ⟨p, 0, none⟩)] w fun e w' => e = .returned (.tuple #[]) ∧ X.Lies w0 w' (.disk p n s.flush :: L) := by
  obtain ⟨F, G, hp, hd, -⟩ := h.disk
  refine (disk_Flush.calls p n F G s w hp).mono ?_
  rintro e w' ⟨rfl, h2⟩
  exact ⟨rfl, hd _ _ h2⟩
end Go.Proofs.Ytlbfpjhnpnbikaa.U
