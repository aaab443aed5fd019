/- Ux11: what this claim uses. Laid by slim.py (ours). -/
import Derived.Test.YtlbfpjhnpnbikaaKUx0
import Derived.Test.YtlbfpjhnpnbikaaKUx1
import Derived.Test.YtlbfpjhnpnbikaaKUx10
import Derived.Test.YtlbfpjhnpnbikaaKUx19
namespace Go.Proofs.Ytlbfpjhnpnbikaa.U
open Go.RowKit Go.Proofs.YtlbfpjhnpnbikaaW.PrintWords Go.Proofs.YtlbfpjhnpnbikaaW.PrintLast Go.Proofs.YtlbfpjhnpnbikaaW.PrintMore
attribute [local go_sem] max2_int min2_int max_two min_two max_three min_three max_four min_four
set_option linter.unusedVariables false
set_option linter.unusedSimpArgs false
theorem info_bytes256 : (Try.prog.info? 84).map (·.size) = some 256 := by kernel_rfl
theorem info_write3 : (Try.prog.info? 86).map (fun i => (i.zero, i.size, i.bytes)) = some (some (.agg zeroW), 257, 264) := by kernel_rfl
theorem clone_256 (A : Option Addr) (c : Nat) (xs : List Int) (w : World) (hC : (Kd.int .u8).C w A 256 xs) (hc : 256 ≤ c) :
    Calls Try.prog 37 #[.slice A 256 c] w fun e w' => ∃ v0_ : Value, e = .returned (v0_) ∧ Kd.R (Kd.int .u8) 5 w' w.heap.size (fun _ => True) v0_ xs ∧ Below w.heap.size w w' := by
  have hl : xs.length = 256 := hC.1
  have h := slices_Clone_byte_byte.calls A c xs xs w (by rw [hl]; exact hC) (by rw [hl]; exact hc) (by unfold slices_Clone_byte_byte.f; rw [hl, if_pos (by decide)])
  rw [hl] at h
  exact h
theorem built_write (i : Int) (dx : List Value) (h : dx.length = 256) : Try.prog.built 86 [(0, .int .i64 i), (1, .agg dx.toArray)] = some (.int .i64 i :: dx).toArray := by
  obtain ⟨it, hi, hz⟩ := Option.map_eq_some_iff.1 info_write3
  simp only [Prod.mk.injEq] at hz
  exact X.built_two hi hz.1 Try.underlying86 256 (by decide +kernel) (by rw [zeroW_size]) .i64 i dx h
theorem slice_write (w : World) (cs : List Value) (h : cs.length = 257) : (Instr.buildSlice 79 1 #[(0, .agg cs.toArray)]).run Try.prog w = .ok (.slice (some ⟨w.heap.size, 0, none⟩) 1 1) (w.alloc (.cells cs.toArray 86)) := by
  obtain ⟨it, hi, hz⟩ := Option.map_eq_some_iff.1 info_write3
  simp only [Prod.mk.injEq] at hz
  exact X.slice_one Try.underlying79 hi zero_write 257 hz.2.1 (by decide) (by decide) cs h zeroW_size
def WritePost (w : World) (p : Nat) (F G : Nat → Prop) (n : Nat) (s : X.DS) (e : Ending) (w' : World) : Prop := e = .returned (.int .i64 0) ∧ X.Did w w' p F G n s
theorem disk_Write_no.calls (p n : Nat) (F G : Nat → Prop) (s : X.DS) (i : Int) (A : Option Addr) (m c : Nat) (w : World) (h : X.PD w p F G n s) (hi : hasB i n = false) :
    Calls Try.prog 13 #[.pointer (some ⟨p, 0, none⟩), .int .i64 i, .slice A m c] w fun e w' => e = .returned (.int .i64 16) ∧ w = w' := by
  obtain ⟨sv, pv, gl, gg, fg, h⟩ := h
  have hn := h.ok.n2
  obtain ⟨A1, c1, e1⟩ := Kd.R_slice h.st
  rw [h.ok.len] at e1
  subst e1
  have HP := Aside0.mk h
  have HI := Aside0.mk hi
  clear h hi
  go_enter Try.func13, Try.ntmps13
  go_wp2_with ((go_at_call 35; (with_reducible refine (disk_has.calls p A1 n c1 _ _ _ _ _ i w HP.out.box hn).mono ?_); rw [HI.out]; rintro e w' ⟨rfl, rfl⟩))
  go_ret
  exact ⟨rfl, rfl⟩
theorem disk_Write_short.calls (p n : Nat) (F G : Nat → Prop) (s : X.DS) (i : Int) (A : Option Addr) (m c : Nat) (w : World) (h : X.PD w p F G n s) (hi : hasB i n = true) (hm : m ≠ 256) :
    Calls Try.prog 13 #[.pointer (some ⟨p, 0, none⟩), .int .i64 i, .slice A m c] w fun e w' => e = .returned (.int .i64 1) ∧ w = w' := by
  obtain ⟨sv, pv, gl, gg, fg, h⟩ := h
  have hn := h.ok.n2
  obtain ⟨A1, c1, e1⟩ := Kd.R_slice h.st
  rw [h.ok.len] at e1
  subst e1
  have HP := Aside0.mk h
  have HI := Aside0.mk hi
  have q1 : ((m : Int) != 256) = true := bne_iff_ne.mpr (by omega)
  have q2 : (m != 256) = true := bne_iff_ne.mpr hm
  clear h hi hm
  go_enter Try.func13, Try.ntmps13
  go_wp2_with ((go_at_call 35; (with_reducible refine (disk_has.calls p A1 n c1 _ _ _ _ _ i w HP.out.box hn).mono ?_); rw [HI.out]; rintro e w' ⟨rfl, rfl⟩))
  go_ret
  exact ⟨rfl, rfl⟩
set_option maxHeartbeats 8000000 in
set_option maxRecDepth 100000 in
theorem disk_Write_ghost.calls (p n i : Nat) (F G : Nat → Prop) (s : X.DS) (A : Option Addr) (c : Nat) (xs : List Int) (w : World) (h : X.PD w p F G n s) (hi : i < n) (hC : (Kd.int .u8).C w A 256 xs) (hc : 256 ≤ c) (hu : X.u8all xs = true) (hbl : (s.set && decide (s.left = 0)) = true) :
    Calls Try.prog 13 #[.pointer (some ⟨p, 0, none⟩), .int .i64 (i : Int), .slice A 256 c] w (WritePost w p F G n (s.write i xs)) := by
  obtain ⟨sv, pv, gl, gg, fg, h⟩ := h
  have hn := h.ok.n2
  obtain ⟨A1, c1, e1⟩ := Kd.R_slice h.st
  rw [h.ok.len] at e1
  subst e1
  have HP := Aside0.mk h
  have HI : Aside0 (hasB (i : Int) n = true) := ⟨decide_eq_true ⟨by omega, by omega⟩⟩
  have HBL := Aside0.mk hbl
  have HXL : Aside0 (xs.length = 256) := ⟨hC.1⟩
  have HU := Aside0.mk hu
  have HC := Aside0.mk hC
  clear h hbl hC hu
  go_enter Try.func13, Try.ntmps13
  go_wp2_with (first | ((go_at_call 35; (with_reducible refine (disk_has.calls p A1 n c1 _ _ _ _ _ (i : Int) w HP.out.box hn).mono ?_); rw [HI.out]; rintro e w' ⟨rfl, rfl⟩)) | ((go_at_call 36; (with_reducible refine (disk_spend_no.calls p _ _ _ _ s.set s.left _ HP.out.box HBL.out).mono ?_); rintro e w' ⟨rfl, rfl⟩)))
  refine start_ (n := 8) (S := (fun w' => w'.cell? ⟨p, 3, none⟩ = some (.map (some gg)))) (ds := [7]) #[false, false, false, false, false, false, false, false] (by kernel_rfl) rfl rfl (HP.out.box.cell 3 _ rfl) (fun hHeld => ?_)
  have HP1 := Aside0.mk (HP.out.below (below_drew1 (Below.refl _ _)))
  have HC1 := Aside0.mk (Kd.C_below HC.out (below_drew1 (Below.refl _ _)))
  have HB1 : Aside0 (Below w.heap.size w (World.drew w)) := ⟨below_drew1 (Below.refl _ _)⟩
  generalize World.drew w = w1 at *
  clear HC
  refine pure_ (i := 0) (N := some 17) (v := ?_) (a' := ?_) #[true, false, false, false, false, false, false, false] rfl rfl (by kernel_rfl) (fun _ _ _ h => h) (Or.inl ⟨by rfl, ?_⟩) ?_ ?_
  rotate_left
  · intro w'
    go_simp
    with_reducible rfl
  rotate_left
  · simp only [Act.put, List.setIfInBounds_toArray, List.set_cons_zero, List.set_cons_succ, i64_w, i32_w]
    rfl
  refine pure_ (i := 1) (N := some 18) (v := ?_) (a' := ?_) #[true, true, false, false, false, false, false, false] rfl rfl (by kernel_rfl) (fun _ _ _ h => h) (Or.inl ⟨by rfl, ?_⟩) ?_ ?_
  rotate_left
  · intro w'
    go_simp
    with_reducible rfl
  rotate_left
  · simp only [Act.put, List.setIfInBounds_toArray, List.set_cons_zero, List.set_cons_succ, i64_w, i32_w]
    rfl
  refine pure_ (i := 2) (N := some 19) (v := ?_) (a' := ?_) #[true, true, true, false, false, false, false, false] rfl rfl (by kernel_rfl) (fun _ _ _ h => h) (Or.inl ⟨by rfl, ?_⟩) ?_ ?_
  rotate_left
  · intro w'
    go_simp
    with_reducible rfl
  rotate_left
  · simp only [Act.put, List.setIfInBounds_toArray, List.set_cons_zero, List.set_cons_succ, i64_w, i32_w]
    rfl
  refine take_ (i := 3) (N := some 20) (v := ?_) (a' := ?_) #[true, true, true, true, false, false, false, false] rfl rfl (by kernel_rfl) (fun _ _ _ h => h) (Or.inl ⟨by rfl, ?_⟩) hHeld ?_ ?_
  rotate_left
  · intro w' hs_
    obtain hs0 := hs_
    go_simp
    with_reducible rfl
  rotate_left
  · simp only [Act.put, List.setIfInBounds_toArray, List.set_cons_zero, List.set_cons_succ, i64_w, i32_w]
    rfl
  refine pure_ (i := 4) (N := some 21) (v := ?_) (a' := ?_) #[true, true, true, true, true, false, false, false] rfl rfl (by kernel_rfl) (fun _ _ _ h => h) (Or.inl ⟨by rfl, ?_⟩) ?_ ?_
  rotate_left
  · intro w'
    go_simp
    with_reducible rfl
  rotate_left
  · simp only [Act.put, List.setIfInBounds_toArray, List.set_cons_zero, List.set_cons_succ, i64_w, i32_w]
    rfl
  refine pure_ (i := 5) (N := some 22) (v := ?_) (a' := ?_) #[true, true, true, true, true, true, false, false] rfl rfl (by kernel_rfl) (fun _ _ _ h => h) (Or.inl ⟨by rfl, ?_⟩) ?_ ?_
  rotate_left
  · intro w'
    go_simp
    with_reducible rfl
  rotate_left
  · simp only [Act.put, List.setIfInBounds_toArray, List.set_cons_zero, List.set_cons_succ, i64_w, i32_w]
    rfl
  refine one_ (i := 6) (N := some 23) #[true, true, true, true, true, true, true, false] rfl rfl (by kernel_rfl) (by decide) (fun K hK => ?_)
  refine goes_ Try.func37 (by kernel_rfl) rfl #[.slice A 256 c] (by rfl) rfl rfl (by (try simp only [List.map_toArray, List.map_cons, List.map_nil]); first | done | rfl) ?_
  refine (clone_256 A c xs w1 HC1.out hc).mono ?_
  rintro e w2 ⟨v2, rfl, ho, hb⟩
  refine ⟨_, rfl, ?_⟩
  have HO := Aside0.mk ho
  have HB2 := Aside0.mk hb
  have HP2 := Aside0.mk (HP1.out.below hb)
  clear ho hb HC1 hHeld
  refine hK.out _ _ (HP2.out.box.cell 3 _ rfl) (fun hHeld => ?_)
  clear hK K
  refine norm_ (a' := ?_) ?_ ?_
  rotate_left
  · show Act.put _ (some 23) _ = _
    simp only [Act.put, List.setIfInBounds_toArray, List.set_cons_zero, List.set_cons_succ, i64_w, i32_w]
    rfl
  refine last_ (i := 7) (N := none) #[true, true, true, true, true, true, true, true] rfl rfl (by kernel_rfl) (by decide) (fun K hK => ?_)
  obtain ⟨w3, hrun3, hm3, hg3⟩ := HP2.out.gh.store Try.underlying3 Try.underlying81 (i := (i : Int)) ⟨by omega, by omega⟩ (fun j v hj => X.ghost_range HP2.out hj) v2
  refine skip_ (w1 := w3) (by rfl) rfl ?_ ?_
  · unfold execOp
    go_simp
    try (rw [hrun3]; rfl)
  have HM3 := Aside0.mk hm3
  have HG3 := Aside0.mk hg3
  clear hrun3 hm3 hg3 hHeld
  refine hK.out _ _ ?_
  clear hK K
  refine done_ (by kernel_rfl) ?_
  go_wp2
  go_ret
  have hF : ∀ k, F k → k < w1.heap.size := fun k hk => Nat.lt_of_lt_of_le (HP.out.fb k hk) HB1.out.size
  refine ⟨rfl, F, _, ⟨_, _, _, _, _, HP2.out.ghosted HM3.out HG3.out HO.out hF HBL.out ⟨hi, HXL.out, HU.out⟩⟩, ?_, fun k hk => .inl hk, fun k hk => hk.imp id (fun h => Nat.le_trans HB1.out.size h.1)⟩
  exact ((X.Turn.of_below (S := F) HB1.out).trans (X.Turn.of_below (S := F) HB2.out) (fun _ h => .inl h)).trans ((X.Turn.grown HG3.out).mono (S' := F) (fun k hk => by
    have e : some k = some gg := hk
    injection e with e
    rw [e]
    exact HP.out.fgg)) (fun _ h => .inl h)
set_option maxHeartbeats 8000000 in
set_option maxRecDepth 100000 in
theorem disk_Write_go.calls (p n i : Nat) (F G : Nat → Prop) (s : X.DS) (gd od c : Nat) (xs : List Int) (w : World) (h : X.PD w p F G n s) (hi : i < n) (hC : (Kd.int .u8).C w (some ⟨gd, od, none⟩) 256 xs) (hc : 256 ≤ c) (hu : X.u8all xs = true) (hbl : (s.set && decide (s.left = 0)) = false)
    (hgd : ¬ F gd) (hgl : gd < w.heap.size) (hpl : s.pend.length ≤ 500000000000) :
    Calls Try.prog 13 #[.pointer (some ⟨p, 0, none⟩), .int .i64 (i : Int), .slice (some ⟨gd, od, none⟩) 256 c] w (WritePost w p F G n (s.write i xs)) := by
  obtain ⟨sv, pv, gl, gg, fg, h⟩ := h
  have hn := h.ok.n2
  obtain ⟨A1, c1, e1⟩ := Kd.R_slice h.st
  rw [h.ok.len] at e1
  subst e1
  have HP := Aside0.mk h
  have HI : Aside0 (hasB (i : Int) n = true) := ⟨decide_eq_true ⟨by omega, by omega⟩⟩
  have HBL := Aside0.mk hbl
  have HXL : Aside0 (xs.length = 256) := ⟨hC.1⟩
  have HU := Aside0.mk hu
  have HC := Aside0.mk hC
  have HGD := Aside0.mk hgd
  clear h hbl hC hu hgd
  go_enter Try.func13, Try.ntmps13
  go_wp2_with (first | ((go_at_call 35; (with_reducible refine (disk_has.calls p A1 n c1 _ _ _ _ _ (i : Int) w HP.out.box hn).mono ?_); rw [HI.out]; rintro e w' ⟨rfl, rfl⟩)) | ((go_at_call 36; (with_reducible refine (disk_spend.calls p _ _ _ _ s.set s.left _ HP.out.box HBL.out HP.out.ok.left).mono ?_); rintro e w1 ⟨rfl, hb1, ht1⟩; have HB1 := Aside0.mk hb1; have HT1 := Aside0.mk ht1; clear hb1 ht1)))
  have HP1 := Aside0.mk (HP.out.reboxed HT1.out (s' := { s with left := spentL s.set s.left }) HB1.out rfl rfl HP.out.pd ⟨HP.out.ok.len, HP.out.ok.n1, HP.out.ok.n2, HP.out.ok.u8, HP.out.ok.pend, HP.out.ok.ghosts, by have := HP.out.ok.left; show spentL s.set s.left ≤ _; unfold spentL; split <;> omega⟩)
  have HTT : Aside0 (X.Turn F w w1) := ⟨HT1.out.mono (fun k hk => by have e : k = p := hk; rw [e]; exact HP.out.fp)⟩
  have HC1 : Aside0 ((Kd.int .u8).C w1 (some ⟨gd, od, none⟩) 256 xs) := ⟨X.C_move HC.out (HTT.out.block gd hgl HGD.out)⟩
  have HGL : Aside0 (gd < w1.heap.size) := ⟨Nat.lt_of_lt_of_le hgl HTT.out.size⟩
  obtain ⟨A2, c2, e2⟩ := Kd.R_slice HP1.out.pd
  subst e2
  have hpl2 : (s.pend.map X.wcells).length = s.pend.length := List.length_map ..
  rw [hpl2] at HP1
  clear HB1 HT1 HP HC hgl hpl2
  obtain ⟨l1, hl1⟩ : ∃ l1, l1 = spentL s.set s.left := ⟨_, rfl⟩
  rw [← hl1] at HP1
  have HL1 := Aside0.mk hl1
  clear hl1
  refine start_ (n := 11) (S := (fun w' => w'.cell? ⟨p, 2, none⟩ = some (.map (some gl)) ∧ w'.cell? ⟨p, 1, none⟩ = some (.slice A2 s.pend.length c2))) (ds := [10]) #[false, false, false, false, false, false, false, false, false, false, false] (by kernel_rfl) rfl rfl ⟨HP1.out.box.cell 2 _ rfl, HP1.out.box.cell 1 _ rfl⟩ (fun hHeld => ?_)
  have HP2 := Aside0.mk (HP1.out.below (below_drew1 (Below.refl _ _)))
  have HC2 := Aside0.mk (Kd.C_below HC1.out (below_drew1 (Below.refl _ _)))
  have HT2 : Aside0 (X.Turn F w (World.drew w1)) := ⟨HTT.out.trans (X.Turn.of_below (S := F) (below_drew1 (Below.refl _ _))) (fun _ h => .inl h)⟩
  have HGL2 : Aside0 (gd < (World.drew w1).heap.size) := ⟨HGL.out⟩
  generalize World.drew w1 = w2 at *
  clear HC1 HP1 HTT HGL
  refine pure_ (i := 0) (N := some 24) (v := ?_) (a' := ?_) #[true, false, false, false, false, false, false, false, false, false, false] rfl rfl (by kernel_rfl) (fun _ _ _ h => h) (Or.inl ⟨by rfl, ?_⟩) ?_ ?_
  rotate_left
  · intro w'
    go_simp
    with_reducible rfl
  rotate_left
  · simp only [Act.put, List.setIfInBounds_toArray, List.set_cons_zero, List.set_cons_succ, i64_w, i32_w]
    rfl
  refine pure_ (i := 1) (N := some 25) (v := ?_) (a' := ?_) #[true, true, false, false, false, false, false, false, false, false, false] rfl rfl (by kernel_rfl) (fun _ _ _ h => h) (Or.inl ⟨by rfl, ?_⟩) ?_ ?_
  rotate_left
  · intro w'
    go_simp
    with_reducible rfl
  rotate_left
  · simp only [Act.put, List.setIfInBounds_toArray, List.set_cons_zero, List.set_cons_succ, i64_w, i32_w]
    rfl
  refine pure_ (i := 2) (N := some 26) (v := ?_) (a' := ?_) #[true, true, true, false, false, false, false, false, false, false, false] rfl rfl (by kernel_rfl) (fun _ _ _ h => h) (Or.inl ⟨by rfl, ?_⟩) ?_ ?_
  rotate_left
  · intro w'
    go_simp
    with_reducible rfl
  rotate_left
  · simp only [Act.put, List.setIfInBounds_toArray, List.set_cons_zero, List.set_cons_succ, i64_w, i32_w]
    rfl
  refine take_ (i := 3) (N := some 27) (v := ?_) (a' := ?_) #[true, true, true, true, false, false, false, false, false, false, false] rfl rfl (by kernel_rfl) (fun _ _ _ h => h) (Or.inl ⟨by rfl, ?_⟩) hHeld ?_ ?_
  rotate_left
  · intro w' hs_
    obtain ⟨hs0, hs1⟩ := hs_
    go_simp
    with_reducible rfl
  rotate_left
  · simp only [Act.put, List.setIfInBounds_toArray, List.set_cons_zero, List.set_cons_succ, i64_w, i32_w]
    rfl
  refine pure_ (i := 4) (N := some 28) (v := ?_) (a' := ?_) #[true, true, true, true, true, false, false, false, false, false, false] rfl rfl (by kernel_rfl) (fun _ _ _ h => h) (Or.inl ⟨by rfl, ?_⟩) ?_ ?_
  rotate_left
  · intro w'
    go_simp
    with_reducible rfl
  rotate_left
  · simp only [Act.put, List.setIfInBounds_toArray, List.set_cons_zero, List.set_cons_succ, i64_w, i32_w]
    rfl
  refine pure_ (i := 5) (N := some 29) (v := ?_) (a' := ?_) #[true, true, true, true, true, true, false, false, false, false, false] rfl rfl (by kernel_rfl) (fun _ _ _ h => h) (Or.inl ⟨by rfl, ?_⟩) ?_ ?_
  rotate_left
  · intro w'
    go_simp
    with_reducible rfl
  rotate_left
  · simp only [Act.put, List.setIfInBounds_toArray, List.set_cons_zero, List.set_cons_succ, i64_w, i32_w]
    rfl
  refine pure_ (i := 6) (N := some 30) (v := ?_) (a' := ?_) #[true, true, true, true, true, true, true, false, false, false, false] rfl rfl (by kernel_rfl) (fun _ _ _ h => h) (Or.inl ⟨by rfl, ?_⟩) ?_ ?_
  rotate_left
  · intro w'
    go_simp
    with_reducible rfl
  rotate_left
  · simp only [Act.put, List.setIfInBounds_toArray, List.set_cons_zero, List.set_cons_succ, i64_w, i32_w]
    rfl
  refine pure_ (i := 7) (N := some 31) (v := ?_) (a' := ?_) #[true, true, true, true, true, true, true, true, false, false, false] rfl rfl (by kernel_rfl) (fun _ _ _ h => h) (Or.inl ⟨by rfl, ?_⟩) ?_ ?_
  rotate_left
  · intro w'
    go_simp
    with_reducible rfl
  rotate_left
  · simp only [Act.put, List.setIfInBounds_toArray, List.set_cons_zero, List.set_cons_succ, i64_w, i32_w]
    rfl
  refine take_ (i := 8) (N := some 32) (v := ?_) (a' := ?_) #[true, true, true, true, true, true, true, true, true, false, false] rfl rfl (by kernel_rfl) (fun _ _ _ h => h) (Or.inl ⟨by rfl, ?_⟩) hHeld ?_ ?_
  rotate_left
  · intro w' hs_
    obtain ⟨hs0, hs1⟩ := hs_
    go_simp
    with_reducible rfl
  rotate_left
  · simp only [Act.put, List.setIfInBounds_toArray, List.set_cons_zero, List.set_cons_succ, i64_w, i32_w]
    rfl
  refine pure_ (i := 9) (N := some 33) (v := ?_) (a' := ?_) #[true, true, true, true, true, true, true, true, true, true, false] rfl rfl (by kernel_rfl) (fun _ _ _ h => h) (Or.inl ⟨by rfl, ?_⟩) ?_ ?_
  rotate_left
  · intro w'
    go_simp
    with_reducible rfl
  rotate_left
  · simp only [Act.put, List.setIfInBounds_toArray, List.set_cons_zero, List.set_cons_succ, i64_w, i32_w]
    rfl
  refine last_ (i := 10) (N := none) #[true, true, true, true, true, true, true, true, true, true, true] rfl rfl (by kernel_rfl) (by decide) (fun K hK => ?_)
  obtain ⟨w3, hrun3, hm3, hg3⟩ := HP2.out.la.store Try.underlying3 Try.underlying80 (i := (i : Int)) ⟨by omega, by omega⟩ (fun j v hj => X.lastIdx_range HP2.out.ok.pend hn hj) (.int .i64 (s.pend.length : Int))
  refine skip_ (w1 := w3) (by rfl) rfl ?_ ?_
  · unfold execOp
    go_simp
    try (rw [hrun3]; rfl)
  have hla3 : X.IMap Try.prog 3 w3 gl (fun j => (X.lastIdx (s.pend ++ [(i, xs)]) j).map fun k : Nat => Value.int .i64 (k : Int)) := by
    have e : (fun j => (X.lastIdx (s.pend ++ [(i, xs)]) j).map fun k : Nat => Value.int .i64 (k : Int)) = fun j => if j = (i : Int) then some (Value.int .i64 (s.pend.length : Int)) else (X.lastIdx s.pend j).map fun k : Nat => Value.int .i64 (k : Int) := by
      funext j
      rw [X.lastIdx_snoc]
      split <;> rfl
    rw [e]
    exact hm3
  have HM3 := Aside0.mk (HP2.out.mapped hg3 (X.IMap.is HP2.out.la) (s.pend ++ [(i, xs)]) fg hla3 (HP2.out.gh.move (hg3.block gg HP2.out.gh.lt (fun e => by injection e with e; exact HP2.out.ne e.symm))) (X.ghosts_kept HP2.out hg3 HP2.out.fl))
  have HT3 := Aside0.mk (HT2.out.trans ((X.Turn.grown hg3).mono (S' := F) (fun k hk => by have e : some k = some gl := hk; injection e with e; rw [e]; exact HP2.out.fl)) (fun _ hk => .inl hk))
  have HC3 : Aside0 ((Kd.int .u8).C w3 (some ⟨gd, od, none⟩) 256 xs) := ⟨X.C_move HC2.out (hg3.block gd HGL2.out (fun e => by injection e with e; exact HGD.out (by rw [e]; exact HP2.out.fl)))⟩
  have HGL3 : Aside0 (gd < w3.heap.size) := ⟨Nat.lt_of_lt_of_le HGL2.out hg3.size⟩
  clear hrun3 hm3 hg3 hla3 HP2 HT2 HC2 HGL2 hHeld
  refine hK.out _ _ ?_
  clear hK K
  refine done_ (by kernel_rfl) ?_
  go_wp2_with fail
  have hap : ∀ w' : World, (Instr.arrayAt 84 (.slice (some ⟨gd, od, none⟩) 256 c)).run Try.prog w' = .ok (.pointer (some ⟨gd, od, none⟩)) w' := fun w' => by simp [Instr.arrayAt, run_underlying Try.underlying84]
  obtain ⟨dx, hdx⟩ : ∃ dx, xs.map (Value.int .u8) = dx := ⟨_, rfl⟩
  have HDX := Aside0.mk hdx
  have HDL : Aside0 (dx.length = 256) := ⟨by rw [← hdx, List.length_map]; exact HXL.out⟩
  clear hdx
  refine start_ (n := 15) (S := (fun w' => w'.cell? ⟨p, 1, none⟩ = some (.slice A2 s.pend.length c2) ∧ w'.rangeAt gd od dx)) (ds := [14]) #[false, false, false, false, false, false, false, false, false, false, false, false, false, false, false] (by kernel_rfl) rfl rfl ⟨HM3.out.box.cell 1 _ rfl, by rw [← HDX.out]; exact X.C_range HC3.out⟩ (fun hHeld => ?_)
  have HM4 := Aside0.mk (HM3.out.below (below_drew1 (Below.refl _ _)))
  have HC4 := Aside0.mk (Kd.C_below HC3.out (below_drew1 (Below.refl _ _)))
  have HT4 : Aside0 (X.Turn F w (World.drew w3)) := ⟨HT3.out.trans (X.Turn.of_below (S := F) (below_drew1 (Below.refl _ _))) (fun _ h => .inl h)⟩
  have HGL4 : Aside0 (gd < (World.drew w3).heap.size) := ⟨HGL3.out⟩
  generalize World.drew w3 = w4 at *
  clear HC3 HM3 HT3 HGL3
  refine pure_ (i := 0) (N := some 34) (v := ?_) (a' := ?_) #[true, false, false, false, false, false, false, false, false, false, false, false, false, false, false] rfl rfl (by kernel_rfl) (fun _ _ _ h => h) (Or.inl ⟨by rfl, ?_⟩) ?_ ?_
  rotate_left
  · intro w'
    go_simp
    with_reducible rfl
  rotate_left
  · simp only [Act.put, List.setIfInBounds_toArray, List.set_cons_zero, List.set_cons_succ, i64_w, i32_w]
    rfl
  refine pure_ (i := 1) (N := some 35) (v := ?_) (a' := ?_) #[true, true, false, false, false, false, false, false, false, false, false, false, false, false, false] rfl rfl (by kernel_rfl) (fun _ _ _ h => h) (Or.inl ⟨by rfl, ?_⟩) ?_ ?_
  rotate_left
  · intro w'
    go_simp
    with_reducible rfl
  rotate_left
  · simp only [Act.put, List.setIfInBounds_toArray, List.set_cons_zero, List.set_cons_succ, i64_w, i32_w]
    rfl
  refine pure_ (i := 2) (N := some 36) (v := ?_) (a' := ?_) #[true, true, true, false, false, false, false, false, false, false, false, false, false, false, false] rfl rfl (by kernel_rfl) (fun _ _ _ h => h) (Or.inl ⟨by rfl, ?_⟩) ?_ ?_
  rotate_left
  · intro w'
    go_simp
    with_reducible rfl
  rotate_left
  · simp only [Act.put, List.setIfInBounds_toArray, List.set_cons_zero, List.set_cons_succ, i64_w, i32_w]
    rfl
  refine pure_ (i := 3) (N := some 37) (v := ?_) (a' := ?_) #[true, true, true, true, false, false, false, false, false, false, false, false, false, false, false] rfl rfl (by kernel_rfl) (fun _ _ _ h => h) (Or.inl ⟨by rfl, ?_⟩) ?_ ?_
  rotate_left
  · intro w'
    go_simp
    with_reducible rfl
  rotate_left
  · simp only [Act.put, List.setIfInBounds_toArray, List.set_cons_zero, List.set_cons_succ, i64_w, i32_w]
    rfl
  refine take_ (i := 4) (N := some 38) (v := ?_) (a' := ?_) #[true, true, true, true, true, false, false, false, false, false, false, false, false, false, false] rfl rfl (by kernel_rfl) (fun _ _ _ h => h) (Or.inl ⟨by rfl, ?_⟩) hHeld ?_ ?_
  rotate_left
  · intro w' hs_
    obtain ⟨hs0, hs1⟩ := hs_
    go_simp
    with_reducible rfl
  rotate_left
  · simp only [Act.put, List.setIfInBounds_toArray, List.set_cons_zero, List.set_cons_succ, i64_w, i32_w]
    rfl
  refine pure_ (i := 5) (N := some 39) (v := ?_) (a' := ?_) #[true, true, true, true, true, true, false, false, false, false, false, false, false, false, false] rfl rfl (by kernel_rfl) (fun _ _ _ h => h) (Or.inl ⟨by rfl, ?_⟩) ?_ ?_
  rotate_left
  · intro w'
    go_simp
    with_reducible rfl
  rotate_left
  · simp only [Act.put, List.setIfInBounds_toArray, List.set_cons_zero, List.set_cons_succ, i64_w, i32_w]
    rfl
  refine pure_ (i := 6) (N := some 40) (v := ?_) (a' := ?_) #[true, true, true, true, true, true, true, false, false, false, false, false, false, false, false] rfl rfl (by kernel_rfl) (fun _ _ _ h => h) (Or.inl ⟨by rfl, ?_⟩) ?_ ?_
  rotate_left
  · intro w'
    go_simp
    with_reducible rfl
  rotate_left
  · simp only [Act.put, List.setIfInBounds_toArray, List.set_cons_zero, List.set_cons_succ, i64_w, i32_w]
    rfl
  refine pure_ (i := 7) (N := some 41) (v := ?_) (a' := ?_) #[true, true, true, true, true, true, true, true, false, false, false, false, false, false, false] rfl rfl (by kernel_rfl) (fun _ _ _ h => h) (Or.inl ⟨by rfl, ?_⟩) ?_ ?_
  rotate_left
  · intro w'
    go_simp
    with_reducible rfl
  rotate_left
  · simp only [Act.put, List.setIfInBounds_toArray, List.set_cons_zero, List.set_cons_succ, i64_w, i32_w]
    rfl
  refine take_ (i := 8) (N := some 42) (v := .agg dx.toArray) (a' := ?_) #[true, true, true, true, true, true, true, true, true, false, false, false, false, false, false] rfl rfl (by kernel_rfl) (fun _ _ _ h => h) (Or.inl ⟨by rfl, ?_⟩) hHeld ?_ ?_
  · intro w' hs_
    obtain ⟨hs0, hs1⟩ := hs_
    exact X.load_exec 84 (.tmp 41) (by rfl) gd od (by rfl) dx _ hs1 Try.underlying84 rfl (by rw [HDL.out]; exact info_bytes256)
  rotate_left
  · simp only [Act.put, List.setIfInBounds_toArray, List.set_cons_zero, List.set_cons_succ, i64_w, i32_w]
    rfl
  refine pure_ (i := 9) (N := some 43) (v := .agg (Value.int .i64 (i : Int) :: dx).toArray) (a' := ?_) #[true, true, true, true, true, true, true, true, true, true, false, false, false, false, false] rfl rfl (by kernel_rfl) (fun _ _ _ h => h) (Or.inl ⟨by rfl, ?_⟩) ?_ ?_
  · intro w'
    exact X.build_exec (.tmp 39) (.tmp 42) (by rfl) .i64 (i : Int) dx (by rfl) (by rfl) (built_write (i : Int) dx HDL.out)
  rotate_left
  · simp only [Act.put, List.setIfInBounds_toArray, List.set_cons_zero, List.set_cons_succ, i64_w, i32_w]
    rfl
  refine one_ (i := 10) (N := some 44) #[true, true, true, true, true, true, true, true, true, true, true, false, false, false, false] rfl rfl (by kernel_rfl) (by decide) (fun K hK => ?_)
  refine X.val_ (by rfl) rfl (X.slice_exec (.tmp 43) (by rfl) _ _ (by rfl) (slice_write w4 (.int .i64 (i : Int) :: dx) (by rw [List.length_cons, HDL.out]))) ?_
  have HB5 : Aside0 (Below w4.heap.size w4 (w4.alloc (.cells (Value.int .i64 (i : Int) :: dx).toArray 86))) := ⟨(Below.refl _ _).alloc (Nat.le_refl _) _⟩
  have HX5 : Aside0 (X.Blk (w4.alloc (.cells (Value.int .i64 (i : Int) :: dx).toArray 86)) w4.heap.size (Value.int .i64 (i : Int) :: dx).toArray 86) := ⟨X.Blk.new w4 _ _⟩
  obtain ⟨gb, hgb⟩ : ∃ gb, gb = w4.heap.size := ⟨_, rfl⟩
  rw [← hgb] at HX5 ⊢
  have HGB := Aside0.mk hgb
  have HM5 := Aside0.mk (HM4.out.below HB5.out)
  have HC5 := Aside0.mk (Kd.C_below HC4.out HB5.out)
  have HT5 := Aside0.mk (HT4.out.trans (X.Turn.of_below (S := F) HB5.out) (fun _ h => .inl h))
  have HGL5 := Aside0.mk (Nat.lt_of_lt_of_le HGL4.out HB5.out.size)
  generalize w4.alloc (.cells (Value.int .i64 (i : Int) :: dx).toArray 86) = w5 at *
  clear HM4 HC4 HT4 HGL4 hgb hHeld
  refine hK.out _ _ ⟨HM5.out.box.cell 1 _ rfl, by rw [← HDX.out]; exact X.C_range HC5.out⟩ (fun hHeld => ?_)
  clear hK K
  refine norm_ (a' := ?_) ?_ ?_
  rotate_left
  · show Act.put _ (some 44) _ = _
    simp only [Act.put, List.setIfInBounds_toArray, List.set_cons_zero, List.set_cons_succ, i64_w, i32_w]
    rfl
  have hxc : (Value.int .i64 (i : Int) :: dx).length = 257 := by rw [List.length_cons, HDL.out]
  have HXC := Aside0.mk (X.C_raw_one HX5.out hxc (by rw [← HDX.out]; exact X.wcells_one (i, xs)))
  clear hxc HX5
  refine one_ (i := 11) (N := some 45) #[true, true, true, true, true, true, true, true, true, true, true, true, false, false, false] rfl rfl (by kernel_rfl) (by decide) (fun K hK => ?_)
  refine Kd.R_append_rows_step (Kd.raw 257) (w0 := w5) 0 (by rfl) (.tmp 38) (.tmp 44) 79 86 (.agg zeroW) 264 rfl Try.underlying79 info_write3 zeroW_size (by decide) (by decide) _ (s.pend.map X.wcells) [Value.int .i64 (i : Int) :: dx] _ _ _ (fun k => F k ∨ w5.heap.size ≤ k) (fun _ => False) (by rfl) (by rfl) (Kd.R_mono HM5.out.pd (fun _ h => .inl h)) HXC.out (fun _ _ h => h) (fun _ h => h.elim) (fun _ h => .inr h) (Below.refl 0 w5) (Nat.zero_le _) (by rw [List.length_map]; omega) ?_
  intro v6 w6 hr6 hb6 hg6 ha6
  obtain ⟨A6, c6, e6⟩ := Kd.R_slice hr6
  generalize hL : (s.pend.map X.wcells ++ [Value.int .i64 (i : Int) :: dx]).length = L6 at e6
  subst e6
  clear hL
  have HR6 := Aside0.mk hr6
  have HG6 := Aside0.mk hg6
  have HB6 := Aside0.mk hb6
  have hty6 := Kd.R_typed HM5.out.pd
  have hbx6 : X.Blk w6 p #[_, .slice A2 s.pend.length c2, .map (some gl), .map (some gg), .bool s.set, .int .i64 (l1 : Int)] 83 := (hg6.block p (X.Blk.lt HM5.out.box) (Kd.R_ne HM5.out.pd HM5.out.box (by decide))).trans HM5.out.box
  have HX6 := Aside0.mk hbx6
  clear hr6 hb6 hg6 ha6 hty6 hbx6 hHeld
  refine hK.out _ _ ⟨HX6.out.cell 1 _ rfl, by rw [← HDX.out]; exact X.C_range (X.C_move HC5.out (HG6.out.block gd HGL5.out (fun e => HGD.out (HM5.out.pd.1 gd e.symm))))⟩ (fun hHeld => ?_)
  clear hK K
  refine norm_ (a' := ?_) ?_ ?_
  rotate_left
  · show Act.put _ (some 45) _ = _
    simp only [Act.put, List.setIfInBounds_toArray, List.set_cons_zero, List.set_cons_succ, i64_w, i32_w]
    rfl
  refine pure_ (i := 12) (N := some 46) (v := ?_) (a' := ?_) #[true, true, true, true, true, true, true, true, true, true, true, true, true, false, false] rfl rfl (by kernel_rfl) (fun _ _ _ h => h) (Or.inl ⟨by rfl, ?_⟩) ?_ ?_
  rotate_left
  · intro w'
    go_simp
    with_reducible rfl
  rotate_left
  · simp only [Act.put, List.setIfInBounds_toArray, List.set_cons_zero, List.set_cons_succ, i64_w, i32_w]
    rfl
  refine pure_ (i := 13) (N := some 47) (v := ?_) (a' := ?_) #[true, true, true, true, true, true, true, true, true, true, true, true, true, true, false] rfl rfl (by kernel_rfl) (fun _ _ _ h => h) (Or.inl ⟨by rfl, ?_⟩) ?_ ?_
  rotate_left
  · intro w'
    go_simp
    with_reducible rfl
  rotate_left
  · simp only [Act.put, List.setIfInBounds_toArray, List.set_cons_zero, List.set_cons_succ, i64_w, i32_w]
    rfl
  refine last_ (i := 14) (N := none) #[true, true, true, true, true, true, true, true, true, true, true, true, true, true, true] rfl rfl (by kernel_rfl) (by decide) (fun K hK => ?_)
  have c1_ := HX6.out.cell 1 _ rfl
  have f1_ := HX6.out.free 1
  refine skip_ (w1 := ?_) (by rfl) rfl ?_ ?_
  rotate_left
  · go_simp
    rfl
  have HM7 := Aside0.mk (HM5.out.appended (s2 := { s with pend := s.pend ++ [(i, xs)], left := l1 }) (by rw [List.map_append, List.map_cons, List.map_nil]; unfold X.wcells; rw [HDX.out]; exact HR6.out) HG6.out rfl rfl rfl rfl ⟨HM5.out.ok.len, HM5.out.ok.n1, HM5.out.ok.n2, HM5.out.ok.u8, fun y hy => by rcases List.mem_append.1 hy with hy | hy; exact HM5.out.ok.pend y hy; rw [List.mem_singleton.1 hy]; exact ⟨hi, HXL.out, HU.out⟩, HM5.out.ok.ghosts, HM5.out.ok.left⟩)
  have HT7 : Aside0 (X.Turn F w (w6.setCell ⟨p, 1, none⟩ (.slice A6 L6 c6))) := ⟨(HT5.out.trans ((X.Turn.grown HG6.out).mono (S' := F) (fun k hk => HM5.out.pd.1 k (Eq.symm hk))) (fun _ h => .inl h)).trans ((X.Turn.setCell w6 ⟨p, 1, none⟩ (.slice A6 L6 c6)).mono (S' := F) (fun k hk => by have e : k = p := hk; rw [e]; exact HM5.out.fp)) (fun _ h => .inl h)⟩
  have HZ7 : Aside0 (w.heap.size ≤ w5.heap.size) := ⟨HT5.out.size⟩
  clear c1_ f1_ HM5 HC5 HT5 HR6 HB6 HG6 HX6 hHeld
  refine hK.out _ _ ?_
  clear hK K
  refine done_ (by kernel_rfl) ?_
  go_wp2
  go_ret
  have e : s.write i xs = { s with pend := s.pend ++ [(i, xs)], left := l1 } := by
    rw [HL1.out]
    unfold X.DS.write spentL
    rw [if_neg (by rw [HBL.out]; decide)]
  rw [e]
  exact ⟨rfl, _, G, ⟨_, _, _, _, _, HM7.out⟩, HT7.out, fun k hk => hk.imp id (fun h => Nat.le_trans HZ7.out h.1), fun k hk => .inl hk⟩
def put (s : X.DS) (n : Nat) (i : Int) (xs : List Int) : X.DS := if hasB i n = true ∧ xs.length = 256 then s.write i.toNat xs else s
def putE (n : Nat) (i : Int) (m : Nat) : Int := if hasB i n = true then (if m = 256 then 0 else 1) else 16
theorem disk_Write.part (w0 w : World) (L : List X.Res) (p n : Nat) (s : X.DS) (i : Int) (A : Option Addr) (c : Nat) (xs : List Int) (h : X.Lies w0 w (.disk p n s :: L)) (hr : X.Rd w0 L fun w' => (Kd.int .u8).C w' A xs.length xs) (hc : xs.length ≤ c) (hu : X.u8all xs = true)
    (hA : ∀ ad, A = some ad → 0 < xs.length → ∃ g o, ad = ⟨g, o, none⟩) (hpl : s.pend.length ≤ 500000000000) :
    Calls Try.prog 13 #[.pointer (some ⟨p, 0, none⟩), .int .i64 i, .slice A xs.length c] w fun e w' => e = .returned (.int .i64 (putE n i xs.length)) ∧ X.Lies w0 w' (.disk p n (put s n i xs) :: L) := by
  obtain ⟨F, G, hp, hd, ha⟩ := h.disk
  have hC := hr w h.tail
  have haF := ha A _ xs hr
  unfold putE put
  rcases hb : hasB i n with _ | _
  · rw [if_neg (by decide), if_neg (by simp)]
    refine (disk_Write_no.calls p n F G s i A xs.length c w hp hb).mono ?_
    rintro e w' ⟨rfl, rfl⟩
    exact ⟨rfl, h⟩
  · rw [if_pos rfl]
    by_cases hl : xs.length = 256
    · rw [if_pos hl, if_pos ⟨rfl, hl⟩]
      have h2 := of_decide_eq_true hb
      obtain ⟨j, rfl⟩ := Int.eq_ofNat_of_zero_le h2.1
      have hj : j < n := by omega
      rw [hl] at hC hc haF hA ⊢
      rcases hbl : (s.set && decide (s.left = 0)) with _ | _
      · obtain ⟨ad, rfl, -⟩ := hC.2.2 (by decide)
        obtain ⟨gd, od, rfl⟩ := hA ad rfl (by decide)
        refine (disk_Write_go.calls p n j F G s gd od c xs w hp hj hC hc hu hbl (haF _ rfl (by decide)) (X.u8_lt hC (by decide)) hpl).mono ?_
        rintro e w' ⟨rfl, hd2⟩
        exact ⟨rfl, hd _ _ hd2⟩
      · refine (disk_Write_ghost.calls p n j F G s A c xs w hp hj hC hc hu hbl).mono ?_
        rintro e w' ⟨rfl, hd2⟩
        exact ⟨rfl, hd _ _ hd2⟩
    · rw [if_neg hl, if_neg (fun h' => hl h'.2)]
      refine (disk_Write_short.calls p n F G s i A xs.length c w hp hb hl).mono ?_
      rintro e w' ⟨rfl, rfl⟩
      exact ⟨rfl, h⟩
end Go.Proofs.Ytlbfpjhnpnbikaa.U
