/- Written by uprint.py (ours) for this seat: functions of the translation as Lean functions, and what their calls do. Not trusted: Lean checks it. -/
import Derived.Test.YtbpkjkdbijifbaaUx0
import Derived.Test.YtbpkjkdbijifbaaUx1
import Derived.Test.YtbpkjkdbijifbaaUx26
namespace Go.Proofs.Ytbpkjkdbijifbaa.U
open Go.RowKit Go.Proofs.YtbpkjkdbijifbaaW.PrintWords Go.Proofs.YtbpkjkdbijifbaaW.PrintLast Go.Proofs.YtbpkjkdbijifbaaW.PrintMore
attribute [local go_sem] max2_int min2_int max_two min_two max_three min_three max_four min_four   -- for this text's walks alone
set_option linter.unusedVariables false
set_option linter.unusedSimpArgs false

-- GIVEN: function 29 ((*undercroft/disk.Disk).Copy)
theorem disk_Copy_nil.calls (w : World) : Calls Try.prog 29 #[.pointer none] w fun e w' => e = .returned (.pointer none) ∧ w = w' := by
  go_enter Try.func29, Try.ntmps29
  go_wp2
  go_ret
  exact ⟨rfl, rfl⟩
theorem clone_st (A : Option Addr) (c n : Nat) (xs : List Int) (w : World) (hC : (Kd.int .u8).C w A (256 * n) xs) (hc : 256 * n ≤ c) (hl : xs.length = 256 * n) (hn : n ≤ 1024) :
    Calls Try.prog 36 #[.slice A (256 * n) c] w fun e w' => ∃ v0_ : Value, e = .returned (v0_) ∧ Kd.R (Kd.int .u8) 5 w' w.heap.size (fun _ => True) v0_ xs ∧ Below w.heap.size w w' := by
  have h := slices_Clone_byte_byte.calls A c xs xs w (by rw [hl]; exact hC) (by rw [hl]; exact hc) (by unfold slices_Clone_byte_byte.f; rw [hl, if_pos (by omega)])
  rw [hl] at h
  exact h
theorem clone_pd (A : Option Addr) (c : Nat) (l : List (Nat × List Int)) (w : World) (hC : (Kd.raw 257).C w A l.length (l.map X.wcells)) (hc : l.length ≤ c) (hl : l.length ≤ 500000000000) :
    Calls Try.prog 47 #[.slice A l.length c] w fun e w' => ∃ v0_ : Value, e = .returned (v0_) ∧ Kd.R (Kd.raw 257) 69 w' w.heap.size (fun _ => True) v0_ (l.map X.wcells) ∧ Below w.heap.size w w' := by
  have h := slices_Clone_write.calls A c (l.map X.wcells) (l.map X.wcells) w (by rw [List.length_map]; exact hC) (by rw [List.length_map]; exact hc) (by unfold slices_Clone_write.f; rw [List.length_map, if_pos hl])
  rw [List.length_map] at h
  exact h
def CopyPost (w : World) (G : Nat → Prop) (n : Nat) (s : X.DS) (e : Ending) (w' : World) : Prop := ∃ pc, e = .returned (.pointer (some ⟨pc, 0, none⟩)) ∧ w.heap.size ≤ pc ∧ X.PD w' pc (fun k => w.heap.size ≤ k ∧ k < w'.heap.size) G n s ∧ Below w.heap.size w w'
set_option maxHeartbeats 16000000 in
set_option maxRecDepth 100000 in
theorem disk_Copy.calls (p n : Nat) (F G : Nat → Prop) (s : X.DS) (w : World) (h : X.PD w p F G n s) (hpl : s.pend.length ≤ 500000000000) :
    Calls Try.prog 29 #[.pointer (some ⟨p, 0, none⟩)] w (CopyPost w G n s) := by
  obtain ⟨sv, pv, gl, gg, fg, h⟩ := h
  have hn := h.ok.n2
  obtain ⟨A1, c1, e1⟩ := Kd.R_slice h.st
  rw [h.ok.len] at e1
  subst e1
  obtain ⟨A2, c2, e2⟩ := Kd.R_slice h.pd
  rw [List.length_map] at e2
  subst e2
  have HP := Aside0.mk h
  have HFG : Aside0 (∀ k, F k ∨ G k → k < w.heap.size) := ⟨fun k hk => h.lt hk⟩
  have h0 := h.box.cell 0 _ rfl
  have h1 := h.box.cell 1 _ rfl
  have h2 := h.box.cell 2 _ rfl
  have h3 := h.box.cell 3 _ rfl
  have h4 := h.box.cell 4 _ rfl
  have h5 := h.box.cell 5 _ rfl
  clear h
  go_enter Try.func29, Try.ntmps29
  go_wp2_with fail
  have HB2 : Aside0 (Below w.heap.size w (w.alloc (.cells #[.slice A1 (256 * n) c1, .slice A2 s.pend.length c2, .map (some gl), .map (some gg), .bool s.set, .int .i64 (s.left : Int)] 66))) := ⟨(Below.refl _ _).alloc (Nat.le_refl _) _⟩
  have hx2 := X.Blk.new w #[.slice A1 (256 * n) c1, .slice A2 s.pend.length c2, .map (some gl), .map (some gg), .bool s.set, .int .i64 (s.left : Int)] 66
  have HP2 := Aside0.mk (HP.out.below HB2.out)
  obtain ⟨gc, hgc⟩ : ∃ gc, gc = w.heap.size := ⟨_, rfl⟩
  have HGC : Aside0 (w.heap.size ≤ gc) := ⟨by omega⟩
  have HNF : Aside0 (∀ k, k = gc → ¬ F k ∧ ¬ G k) := ⟨fun k hk => ⟨fun h => by have := HFG.out k (.inl h); omega, fun h => by have := HFG.out k (.inr h); omega⟩⟩
  rw [← hgc] at hx2 ⊢
  have HX2 := Aside0.mk hx2
  clear hx2 hgc h0 h1 h2 h3 h4 h5 HP
  generalize w.alloc (.cells #[.slice A1 (256 * n) c1, .slice A2 s.pend.length c2, .map (some gl), .map (some gg), .bool s.set, .int .i64 (s.left : Int)] 66) = w2 at *
  refine start_ (n := 14) (S := (fun w' => w'.cell? ⟨p, 0, none⟩ = some (.slice A1 (256 * n) c1) ∧ w'.cell? ⟨p, 1, none⟩ = some (.slice A2 s.pend.length c2))) (ds := [13]) #[false, false, false, false, false, false, false, false, false, false, false, false, false, false] (by kernel_rfl) rfl rfl ⟨HP2.out.box.cell 0 _ rfl, HP2.out.box.cell 1 _ rfl⟩ (fun hHeld => ?_)
  have HP3 := Aside0.mk (HP2.out.below (below_drew1 (Below.refl _ _)))
  have HX3 := Aside0.mk (HX2.out.below (below_drew1 (Below.refl _ _)) HX2.out.lt)
  have HB3 := Aside0.mk (HB2.out.trans (below_drew1 (Below.refl _ _) |>.mono HB2.out.size))
  generalize World.drew _ = w3 at *
  clear HP2 HX2 HB2
  refine pure_ (i := 0) (N := some 9) (v := ?_) (a' := ?_) #[true, false, false, false, false, false, false, false, false, false, false, false, false, false] rfl rfl (by kernel_rfl) (fun _ _ _ h => h) (Or.inl ⟨by rfl, ?_⟩) ?_ ?_
  rotate_left
  · intro w' 
    go_simp
    with_reducible rfl
  rotate_left
  · simp only [Act.put, List.setIfInBounds_toArray, List.set_cons_zero, List.set_cons_succ, i64_w, i32_w]
    rfl
  refine pure_ (i := 1) (N := some 10) (v := ?_) (a' := ?_) #[true, true, false, false, false, false, false, false, false, false, false, false, false, false] rfl rfl (by kernel_rfl) (fun _ _ _ h => h) (Or.inl ⟨by rfl, ?_⟩) ?_ ?_
  rotate_left
  · intro w' 
    go_simp
    with_reducible rfl
  rotate_left
  · simp only [Act.put, List.setIfInBounds_toArray, List.set_cons_zero, List.set_cons_succ, i64_w, i32_w]
    rfl
  refine pure_ (i := 2) (N := some 11) (v := ?_) (a' := ?_) #[true, true, true, false, false, false, false, false, false, false, false, false, false, false] rfl rfl (by kernel_rfl) (fun _ _ _ h => h) (Or.inl ⟨by rfl, ?_⟩) ?_ ?_
  rotate_left
  · intro w' 
    go_simp
    with_reducible rfl
  rotate_left
  · simp only [Act.put, List.setIfInBounds_toArray, List.set_cons_zero, List.set_cons_succ, i64_w, i32_w]
    rfl
  refine take_ (i := 3) (N := some 12) (v := ?_) (a' := ?_) #[true, true, true, true, false, false, false, false, false, false, false, false, false, false] rfl rfl (by kernel_rfl) (fun _ _ _ h => h) (Or.inl ⟨by rfl, ?_⟩) hHeld ?_ ?_
  rotate_left
  · intro w' hs_
    obtain ⟨hs0, hs1⟩ := hs_
    go_simp
    with_reducible rfl
  rotate_left
  · simp only [Act.put, List.setIfInBounds_toArray, List.set_cons_zero, List.set_cons_succ, i64_w, i32_w]
    rfl
  refine pure_ (i := 5) (N := some 14) (v := ?_) (a' := ?_) #[true, true, true, true, false, true, false, false, false, false, false, false, false, false] rfl rfl (by kernel_rfl) (fun _ _ _ h => h) (Or.inl ⟨by rfl, ?_⟩) ?_ ?_
  rotate_left
  · intro w' 
    go_simp
    with_reducible rfl
  rotate_left
  · simp only [Act.put, List.setIfInBounds_toArray, List.set_cons_zero, List.set_cons_succ, i64_w, i32_w]
    rfl
  refine pure_ (i := 6) (N := some 15) (v := ?_) (a' := ?_) #[true, true, true, true, false, true, true, false, false, false, false, false, false, false] rfl rfl (by kernel_rfl) (fun _ _ _ h => h) (Or.inl ⟨by rfl, ?_⟩) ?_ ?_
  rotate_left
  · intro w' 
    go_simp
    with_reducible rfl
  rotate_left
  · simp only [Act.put, List.setIfInBounds_toArray, List.set_cons_zero, List.set_cons_succ, i64_w, i32_w]
    rfl
  refine pure_ (i := 7) (N := some 16) (v := ?_) (a' := ?_) #[true, true, true, true, false, true, true, true, false, false, false, false, false, false] rfl rfl (by kernel_rfl) (fun _ _ _ h => h) (Or.inl ⟨by rfl, ?_⟩) ?_ ?_
  rotate_left
  · intro w' 
    go_simp
    with_reducible rfl
  rotate_left
  · simp only [Act.put, List.setIfInBounds_toArray, List.set_cons_zero, List.set_cons_succ, i64_w, i32_w]
    rfl
  refine take_ (i := 8) (N := some 17) (v := ?_) (a' := ?_) #[true, true, true, true, false, true, true, true, true, false, false, false, false, false] rfl rfl (by kernel_rfl) (fun _ _ _ h => h) (Or.inl ⟨by rfl, ?_⟩) hHeld ?_ ?_
  rotate_left
  · intro w' hs_
    obtain ⟨hs0, hs1⟩ := hs_
    go_simp
    with_reducible rfl
  rotate_left
  · simp only [Act.put, List.setIfInBounds_toArray, List.set_cons_zero, List.set_cons_succ, i64_w, i32_w]
    rfl
  have HQ3 := Aside0.mk (Kd.R_reads' HP3.out.st)
  refine one_ (i := 4) (N := some 13) #[true, true, true, true, true, true, true, true, true, false, false, false, false, false] rfl rfl (by kernel_rfl) (by decide) (fun K hK => ?_)
  refine goes_ Try.func36 (by kernel_rfl) rfl #[.slice A1 (256 * n) c1] (by rfl) rfl rfl (by (try simp only [List.map_toArray, List.map_cons, List.map_nil]); first | done | rfl) ?_
  refine (clone_st A1 c1 n s.bytes w3 (by have h_ := HQ3.out.2.2; rw [HP3.out.ok.len] at h_; exact h_) HQ3.out.2.1 HP3.out.ok.len hn).mono ?_
  rintro e w4 ⟨v4, rfl, ho4, hb4⟩
  refine ⟨_, rfl, ?_⟩
  have HO4 := Aside0.mk (Kd.R_lower ho4 HB3.out.size)
  have HB4 := Aside0.mk (HB3.out.trans (hb4.mono HB3.out.size))
  have HP4 := Aside0.mk (HP3.out.below hb4)
  have HX4 := Aside0.mk (HX3.out.below hb4 HX3.out.lt)
  have HNE4 : Aside0 (∀ k, v4.ownBlock = some k → w3.heap.size ≤ k) := ⟨Kd.R_base ho4⟩
  obtain ⟨A4, c4, e4⟩ := Kd.R_slice ho4
  subst e4
  clear ho4 hb4 HP3 HX3 HB3 HQ3 hHeld
  refine hK.out _ _ ⟨HP4.out.box.cell 0 _ rfl, HP4.out.box.cell 1 _ rfl⟩ (fun hHeld => ?_)
  clear hK K
  refine norm_ (a' := ?_) ?_ ?_
  rotate_left
  · show Act.put _ (some 13) _ = _
    simp only [Act.put, List.setIfInBounds_toArray, List.set_cons_zero, List.set_cons_succ, i64_w, i32_w]
    rfl
  have HQ4 := Aside0.mk (Kd.R_reads' HP4.out.pd)
  refine one_ (i := 9) (N := some 18) #[true, true, true, true, true, true, true, true, true, true, false, false, false, false] rfl rfl (by kernel_rfl) (by decide) (fun K hK => ?_)
  refine goes_ Try.func47 (by kernel_rfl) rfl #[.slice A2 s.pend.length c2] (by rfl) rfl rfl (by (try simp only [List.map_toArray, List.map_cons, List.map_nil]); first | done | rfl) ?_
  refine (clone_pd A2 c2 s.pend w4 (by have h_ := HQ4.out.2.2; rw [List.length_map] at h_; exact h_) HQ4.out.2.1 hpl).mono ?_
  rintro e w5 ⟨v5, rfl, ho5, hb5⟩
  refine ⟨_, rfl, ?_⟩
  have HR5 := Aside0.mk (Kd.R_lower ho5 HB4.out.size)
  have HB5 := Aside0.mk (HB4.out.trans (hb5.mono HB4.out.size))
  have HP5 := Aside0.mk (HP4.out.below hb5)
  have HX5 := Aside0.mk (HX4.out.below hb5 HX4.out.lt)
  have HO5 := Aside0.mk (Kd.R_below HO4.out hb5)
  obtain ⟨A5, c5, e5⟩ := Kd.R_slice ho5
  rw [List.length_map] at e5
  subst e5
  clear ho5 hb5 HP4 HX4 HB4 HO4 HQ4 hHeld
  refine hK.out _ _ ⟨HP5.out.box.cell 0 _ rfl, HP5.out.box.cell 1 _ rfl⟩ (fun hHeld => ?_)
  clear hK K
  refine norm_ (a' := ?_) ?_ ?_
  rotate_left
  · show Act.put _ (some 18) _ = _
    simp only [Act.put, List.setIfInBounds_toArray, List.set_cons_zero, List.set_cons_succ, i64_w, i32_w]
    rfl
  refine pure_ (i := 10) (N := some 19) (v := ?_) (a' := ?_) #[true, true, true, true, true, true, true, true, true, true, true, false, false, false] rfl rfl (by kernel_rfl) (fun _ _ _ h => h) (Or.inl ⟨by rfl, ?_⟩) ?_ ?_
  rotate_left
  · intro w' 
    go_simp
    with_reducible rfl
  rotate_left
  · simp only [Act.put, List.setIfInBounds_toArray, List.set_cons_zero, List.set_cons_succ, i64_w, i32_w]
    rfl
  refine one_ (i := 11) (N := none) #[true, true, true, true, true, true, true, true, true, true, true, true, false, false] rfl rfl (by kernel_rfl) (by decide) (fun K hK => ?_)
  have x0_ := HX5.out.cell 0 _ rfl
  have f0_ := HX5.out.free 0
  refine skip_ (w1 := ?_) (by rfl) rfl ?_ ?_
  rotate_left
  · go_simp
    rfl
  have HX6 := Aside0.mk (HX5.out.set 0 (.slice A4 s.bytes.length c4))
  have HB6 := Aside0.mk (HB5.out.setCell (p := ⟨gc, 0, none⟩) HGC.out (.slice A4 s.bytes.length c4))
  have HO6 := Aside0.mk (Kd.R_set HO5.out HX5.out (by decide) 0 (.slice A4 s.bytes.length c4))
  have HR6 := Aside0.mk (Kd.R_set HR5.out HX5.out (by decide) 0 (.slice A4 s.bytes.length c4))
  have HP6 := Aside0.mk (HP5.out.turn (X.Turn.setCell w5 ⟨gc, 0, none⟩ (.slice A4 s.bytes.length c4)) HNF.out)
  generalize w5.setCell ⟨gc, 0, none⟩ (.slice A4 s.bytes.length c4) = w6 at *
  clear x0_ f0_ HX5 HB5 HO5 HR5 HP5 hHeld
  refine hK.out _ _ ⟨HP6.out.box.cell 0 _ rfl, HP6.out.box.cell 1 _ rfl⟩ (fun hHeld => ?_)
  clear hK K
  refine pure_ (i := 12) (N := some 20) (v := ?_) (a' := ?_) #[true, true, true, true, true, true, true, true, true, true, true, true, true, false] rfl rfl (by kernel_rfl) (fun _ _ _ h => h) (Or.inl ⟨by rfl, ?_⟩) ?_ ?_
  rotate_left
  · intro w' 
    go_simp
    with_reducible rfl
  rotate_left
  · simp only [Act.put, List.setIfInBounds_toArray, List.set_cons_zero, List.set_cons_succ, i64_w, i32_w]
    rfl
  refine last_ (i := 13) (N := none) #[true, true, true, true, true, true, true, true, true, true, true, true, true, true] rfl rfl (by kernel_rfl) (by decide) (fun K hK => ?_)
  have x1_ := HX6.out.cell 1 _ rfl
  have f1_ := HX6.out.free 1
  refine skip_ (w1 := ?_) (by rfl) rfl ?_ ?_
  rotate_left
  · go_simp
    rfl
  have HX7 := Aside0.mk (HX6.out.set 1 (.slice A5 s.pend.length c5))
  have HB7 := Aside0.mk (HB6.out.setCell (p := ⟨gc, 1, none⟩) HGC.out (.slice A5 s.pend.length c5))
  have HO7 := Aside0.mk (Kd.R_set HO6.out HX6.out (by decide) 1 (.slice A5 s.pend.length c5))
  have HR7 := Aside0.mk (Kd.R_set HR6.out HX6.out (by decide) 1 (.slice A5 s.pend.length c5))
  have HP7 := Aside0.mk (HP6.out.turn (X.Turn.setCell w6 ⟨gc, 1, none⟩ (.slice A5 s.pend.length c5)) HNF.out)
  generalize w6.setCell ⟨gc, 1, none⟩ (.slice A5 s.pend.length c5) = w7 at *
  clear x1_ f1_ HX6 HB6 HO6 HR6 HP6 hHeld
  refine hK.out _ _ ?_
  clear hK K
  refine done_ (by kernel_rfl) ?_
  go_wp2_with fail
  refine start_ (n := 14) (S := (fun w' => w'.cell? ⟨p, 2, none⟩ = some (.map (some gl)) ∧ w'.cell? ⟨p, 3, none⟩ = some (.map (some gg)))) (ds := [13]) #[false, false, false, false, false, false, false, false, false, false, false, false, false, false] (by kernel_rfl) rfl rfl ⟨HP7.out.box.cell 2 _ rfl, HP7.out.box.cell 3 _ rfl⟩ (fun hHeld => ?_)
  have HP8 := Aside0.mk (HP7.out.below (below_drew1 (Below.refl _ _)))
  have HX8 := Aside0.mk (HX7.out.below (below_drew1 (Below.refl _ _)) HX7.out.lt)
  have HB8 := Aside0.mk (HB7.out.trans (below_drew1 (Below.refl _ _) |>.mono HB7.out.size))
  have HO8 := Aside0.mk (Kd.R_below HO7.out (below_drew1 (Below.refl _ _)))
  have HR8 := Aside0.mk (Kd.R_below HR7.out (below_drew1 (Below.refl _ _)))
  generalize World.drew w7 = w8 at *
  clear HP7 HX7 HB7 HO7 HR7
  refine pure_ (i := 0) (N := some 21) (v := ?_) (a' := ?_) #[true, false, false, false, false, false, false, false, false, false, false, false, false, false] rfl rfl (by kernel_rfl) (fun _ _ _ h => h) (Or.inl ⟨by rfl, ?_⟩) ?_ ?_
  rotate_left
  · intro w' 
    go_simp
    with_reducible rfl
  rotate_left
  · simp only [Act.put, List.setIfInBounds_toArray, List.set_cons_zero, List.set_cons_succ, i64_w, i32_w]
    rfl
  refine pure_ (i := 1) (N := some 22) (v := ?_) (a' := ?_) #[true, true, false, false, false, false, false, false, false, false, false, false, false, false] rfl rfl (by kernel_rfl) (fun _ _ _ h => h) (Or.inl ⟨by rfl, ?_⟩) ?_ ?_
  rotate_left
  · intro w' 
    go_simp
    with_reducible rfl
  rotate_left
  · simp only [Act.put, List.setIfInBounds_toArray, List.set_cons_zero, List.set_cons_succ, i64_w, i32_w]
    rfl
  refine pure_ (i := 2) (N := some 23) (v := ?_) (a' := ?_) #[true, true, true, false, false, false, false, false, false, false, false, false, false, false] rfl rfl (by kernel_rfl) (fun _ _ _ h => h) (Or.inl ⟨by rfl, ?_⟩) ?_ ?_
  rotate_left
  · intro w' 
    go_simp
    with_reducible rfl
  rotate_left
  · simp only [Act.put, List.setIfInBounds_toArray, List.set_cons_zero, List.set_cons_succ, i64_w, i32_w]
    rfl
  refine take_ (i := 3) (N := some 24) (v := ?_) (a' := ?_) #[true, true, true, true, false, false, false, false, false, false, false, false, false, false] rfl rfl (by kernel_rfl) (fun _ _ _ h => h) (Or.inl ⟨by rfl, ?_⟩) hHeld ?_ ?_
  rotate_left
  · intro w' hs_
    obtain ⟨hs0, hs1⟩ := hs_
    go_simp
    with_reducible rfl
  rotate_left
  · simp only [Act.put, List.setIfInBounds_toArray, List.set_cons_zero, List.set_cons_succ, i64_w, i32_w]
    rfl
  refine pure_ (i := 5) (N := some 26) (v := ?_) (a' := ?_) #[true, true, true, true, false, true, false, false, false, false, false, false, false, false] rfl rfl (by kernel_rfl) (fun _ _ _ h => h) (Or.inl ⟨by rfl, ?_⟩) ?_ ?_
  rotate_left
  · intro w' 
    go_simp
    with_reducible rfl
  rotate_left
  · simp only [Act.put, List.setIfInBounds_toArray, List.set_cons_zero, List.set_cons_succ, i64_w, i32_w]
    rfl
  refine pure_ (i := 6) (N := some 27) (v := ?_) (a' := ?_) #[true, true, true, true, false, true, true, false, false, false, false, false, false, false] rfl rfl (by kernel_rfl) (fun _ _ _ h => h) (Or.inl ⟨by rfl, ?_⟩) ?_ ?_
  rotate_left
  · intro w' 
    go_simp
    with_reducible rfl
  rotate_left
  · simp only [Act.put, List.setIfInBounds_toArray, List.set_cons_zero, List.set_cons_succ, i64_w, i32_w]
    rfl
  refine pure_ (i := 7) (N := some 28) (v := ?_) (a' := ?_) #[true, true, true, true, false, true, true, true, false, false, false, false, false, false] rfl rfl (by kernel_rfl) (fun _ _ _ h => h) (Or.inl ⟨by rfl, ?_⟩) ?_ ?_
  rotate_left
  · intro w' 
    go_simp
    with_reducible rfl
  rotate_left
  · simp only [Act.put, List.setIfInBounds_toArray, List.set_cons_zero, List.set_cons_succ, i64_w, i32_w]
    rfl
  refine take_ (i := 8) (N := some 29) (v := ?_) (a' := ?_) #[true, true, true, true, false, true, true, true, true, false, false, false, false, false] rfl rfl (by kernel_rfl) (fun _ _ _ h => h) (Or.inl ⟨by rfl, ?_⟩) hHeld ?_ ?_
  rotate_left
  · intro w' hs_
    obtain ⟨hs0, hs1⟩ := hs_
    go_simp
    with_reducible rfl
  rotate_left
  · simp only [Act.put, List.setIfInBounds_toArray, List.set_cons_zero, List.set_cons_succ, i64_w, i32_w]
    rfl
  obtain ⟨es1, ck1, hes1, hcl1⟩ := HP8.out.la.clone
  refine one_ (i := 4) (N := some 25) #[true, true, true, true, true, true, true, true, true, false, false, false, false, false] rfl rfl (by kernel_rfl) (by decide) (fun K hK => ?_)
  refine goes_ Try.func48 (by kernel_rfl) rfl #[.map (some gl)] (by rfl) rfl rfl (by (try simp only [List.map_toArray, List.map_cons, List.map_nil]); first | done | rfl) ?_
  refine (maps_CloneII.calls gl es1 ck1 w8 hes1).mono ?_
  rintro e w' ⟨rfl, rfl⟩
  refine ⟨_, rfl, ?_⟩
  have hb_ : Below w8.heap.size w8 (w8.alloc (.map es1 ck1)) := (Below.refl _ _).alloc (Nat.le_refl _) _
  obtain ⟨gl2, hgl2⟩ : ∃ gl2, gl2 = w8.heap.size := ⟨_, rfl⟩
  rw [← hgl2] at hcl1 ⊢
  have HZ1 : Aside0 (w.heap.size ≤ gl2 ∧ gc < gl2) := ⟨by rw [hgl2]; exact ⟨HB8.out.size, HX8.out.lt⟩⟩
  have HL9 := Aside0.mk hcl1
  have HP8b := Aside0.mk (HP8.out.below hb_)
  have HX8b := Aside0.mk (HX8.out.below hb_ HX8.out.lt)
  have HB8b := Aside0.mk (HB8.out.trans (hb_.mono HB8.out.size))
  have HO8b := Aside0.mk (Kd.R_below HO8.out hb_)
  have HR8b := Aside0.mk (Kd.R_below HR8.out hb_)
  have HG9 : Aside0 (gl2 < (w8.alloc (.map es1 ck1)).heap.size) := ⟨hcl1.lt⟩
  generalize w8.alloc (.map es1 ck1) = w9 at *
  clear hb_ hcl1 hgl2 hes1 HP8 HX8 HB8 HO8 HR8 hHeld
  refine hK.out _ _ ⟨HP8b.out.box.cell 2 _ rfl, HP8b.out.box.cell 3 _ rfl⟩ (fun hHeld => ?_)
  clear hK K
  refine norm_ (a' := ?_) ?_ ?_
  rotate_left
  · show Act.put _ (some 25) _ = _
    simp only [Act.put, List.setIfInBounds_toArray, List.set_cons_zero, List.set_cons_succ, i64_w, i32_w]
    rfl
  obtain ⟨es2, ck2, hes2, hcl2⟩ := HP8b.out.gh.clone
  refine one_ (i := 9) (N := some 30) #[true, true, true, true, true, true, true, true, true, true, false, false, false, false] rfl rfl (by kernel_rfl) (by decide) (fun K hK => ?_)
  refine goes_ Try.func49 (by kernel_rfl) rfl #[.map (some gg)] (by rfl) rfl rfl (by (try simp only [List.map_toArray, List.map_cons, List.map_nil]); first | done | rfl) ?_
  refine (maps_CloneIB.calls gg es2 ck2 w9 hes2).mono ?_
  rintro e w' ⟨rfl, rfl⟩
  refine ⟨_, rfl, ?_⟩
  have hb_ : Below w9.heap.size w9 (w9.alloc (.map es2 ck2)) := (Below.refl _ _).alloc (Nat.le_refl _) _
  obtain ⟨gg2, hgg2⟩ : ∃ gg2, gg2 = w9.heap.size := ⟨_, rfl⟩
  rw [← hgg2] at hcl2 ⊢
  have HZ2 : Aside0 (w.heap.size ≤ gg2 ∧ gc < gg2) := ⟨by rw [hgg2]; exact ⟨HB8b.out.size, HX8b.out.lt⟩⟩
  have HNE : Aside0 (gl2 ≠ gg2) := ⟨by rw [hgg2]; have := HG9.out; omega⟩
  have HH10 := Aside0.mk hcl2
  have HL10 := Aside0.mk (HL9.out.move (hb_.block gl2 HG9.out))
  have HP10 := Aside0.mk (HP8b.out.below hb_)
  have HX10 := Aside0.mk (HX8b.out.below hb_ HX8b.out.lt)
  have HB10 := Aside0.mk (HB8b.out.trans (hb_.mono HB8b.out.size))
  have HO10 := Aside0.mk (Kd.R_below HO8b.out hb_)
  have HR10 := Aside0.mk (Kd.R_below HR8b.out hb_)
  generalize w9.alloc (.map es2 ck2) = w10 at *
  clear hb_ hcl2 hgg2 hes2 HP8b HX8b HB8b HO8b HR8b HL9 HG9 hHeld
  refine hK.out _ _ ⟨HP10.out.box.cell 2 _ rfl, HP10.out.box.cell 3 _ rfl⟩ (fun hHeld => ?_)
  clear hK K
  refine norm_ (a' := ?_) ?_ ?_
  rotate_left
  · show Act.put _ (some 30) _ = _
    simp only [Act.put, List.setIfInBounds_toArray, List.set_cons_zero, List.set_cons_succ, i64_w, i32_w]
    rfl
  refine pure_ (i := 10) (N := some 31) (v := ?_) (a' := ?_) #[true, true, true, true, true, true, true, true, true, true, true, false, false, false] rfl rfl (by kernel_rfl) (fun _ _ _ h => h) (Or.inl ⟨by rfl, ?_⟩) ?_ ?_
  rotate_left
  · intro w' 
    go_simp
    with_reducible rfl
  rotate_left
  · simp only [Act.put, List.setIfInBounds_toArray, List.set_cons_zero, List.set_cons_succ, i64_w, i32_w]
    rfl
  refine one_ (i := 11) (N := none) #[true, true, true, true, true, true, true, true, true, true, true, true, false, false] rfl rfl (by kernel_rfl) (by decide) (fun K hK => ?_)
  have x_ := HX10.out.cell 2 _ rfl
  have f_ := HX10.out.free 2
  refine skip_ (w1 := ?_) (by rfl) rfl ?_ ?_
  rotate_left
  · go_simp
    rfl
  have HX11 := Aside0.mk (HX10.out.set 2 (.map (some gl2)))
  have HB11 := Aside0.mk (HB10.out.setCell (p := ⟨gc, 2, none⟩) HGC.out (.map (some gl2)))
  have HO11 := Aside0.mk (Kd.R_set HO10.out HX10.out (by decide) 2 (.map (some gl2)))
  have HR11 := Aside0.mk (Kd.R_set HR10.out HX10.out (by decide) 2 (.map (some gl2)))
  have HL11 := Aside0.mk (HL10.out.move (Below.heap_setCell w10 ⟨gc, 2, none⟩ (.map (some gl2)) gl2 (by have := HZ1.out.2; show gl2 ≠ gc; omega)))
  have HH11 := Aside0.mk (HH10.out.move (Below.heap_setCell w10 ⟨gc, 2, none⟩ (.map (some gl2)) gg2 (by have := HZ2.out.2; show gg2 ≠ gc; omega)))
  have HP11 := Aside0.mk (HP10.out.turn (X.Turn.setCell w10 ⟨gc, 2, none⟩ (.map (some gl2))) HNF.out)
  generalize w10.setCell ⟨gc, 2, none⟩ (.map (some gl2)) = w11 at *
  clear x_ f_ HX10 HB10 HO10 HR10 HP10 HL10 HH10 hHeld
  refine hK.out _ _ ⟨HP11.out.box.cell 2 _ rfl, HP11.out.box.cell 3 _ rfl⟩ (fun hHeld => ?_)
  clear hK K
  refine pure_ (i := 12) (N := some 32) (v := ?_) (a' := ?_) #[true, true, true, true, true, true, true, true, true, true, true, true, true, false] rfl rfl (by kernel_rfl) (fun _ _ _ h => h) (Or.inl ⟨by rfl, ?_⟩) ?_ ?_
  rotate_left
  · intro w' 
    go_simp
    with_reducible rfl
  rotate_left
  · simp only [Act.put, List.setIfInBounds_toArray, List.set_cons_zero, List.set_cons_succ, i64_w, i32_w]
    rfl
  refine last_ (i := 13) (N := none) #[true, true, true, true, true, true, true, true, true, true, true, true, true, true] rfl rfl (by kernel_rfl) (by decide) (fun K hK => ?_)
  have x_ := HX11.out.cell 3 _ rfl
  have f_ := HX11.out.free 3
  refine skip_ (w1 := ?_) (by rfl) rfl ?_ ?_
  rotate_left
  · go_simp
    rfl
  have HX12 := Aside0.mk (HX11.out.set 3 (.map (some gg2)))
  have HB12 := Aside0.mk (HB11.out.setCell (p := ⟨gc, 3, none⟩) HGC.out (.map (some gg2)))
  have HO12 := Aside0.mk (Kd.R_set HO11.out HX11.out (by decide) 3 (.map (some gg2)))
  have HR12 := Aside0.mk (Kd.R_set HR11.out HX11.out (by decide) 3 (.map (some gg2)))
  have HL12 := Aside0.mk (HL11.out.move (Below.heap_setCell w11 ⟨gc, 3, none⟩ (.map (some gg2)) gl2 (by have := HZ1.out.2; show gl2 ≠ gc; omega)))
  have HH12 := Aside0.mk (HH11.out.move (Below.heap_setCell w11 ⟨gc, 3, none⟩ (.map (some gg2)) gg2 (by have := HZ2.out.2; show gg2 ≠ gc; omega)))
  have HP12 := Aside0.mk (HP11.out.turn (X.Turn.setCell w11 ⟨gc, 3, none⟩ (.map (some gg2))) HNF.out)
  generalize w11.setCell ⟨gc, 3, none⟩ (.map (some gg2)) = w12 at *
  clear x_ f_ HX11 HB11 HO11 HR11 HP11 HL11 HH11 hHeld
  refine hK.out _ _ ?_
  clear hK K
  refine done_ (by kernel_rfl) ?_
  go_wp2
  go_ret
  exact ⟨gc, rfl, HGC.out, ⟨.slice A4 s.bytes.length c4, .slice A5 s.pend.length c5, gl2, gg2, fg, {
    box := HX12.out
    st := Kd.R_mono (Kd.R_lower (Kd.R_bound HO12.out) (Nat.zero_le _)) (fun k hk => ⟨hk.2.1, hk.2.2.1⟩)
    pd := Kd.R_mono (Kd.R_lower (Kd.R_bound HR12.out) (Nat.zero_le _)) (fun k hk => ⟨hk.2.1, hk.2.2.1⟩)
    la := HL12.out
    gh := HH12.out
    go := HP12.out.go
    fp := ⟨HGC.out, HX12.out.lt⟩
    fl := ⟨HZ1.out.1, HL12.out.lt⟩
    fgg := ⟨HZ2.out.1, HH12.out.lt⟩
    ne := HNE.out
    sep := fun k hk hk2 => by have := HFG.out k (.inr hk2); omega
    fb := fun k hk => hk.2
    gb := HP12.out.gb
    ok := HP12.out.ok }⟩, HB12.out⟩
theorem disk_Copy.part (w0 w : World) (L : List X.Res) (p n : Nat) (s : X.DS) (h : X.Lies w0 w (.disk p n s :: L)) (hpl : s.pend.length ≤ 500000000000) :
    Calls Try.prog 29 #[.pointer (some ⟨p, 0, none⟩)] w fun e w' => ∃ pc, e = .returned (.pointer (some ⟨pc, 0, none⟩)) ∧ X.Lies w0 w' (.disk pc n s :: .disk p n s :: L) := by
  obtain ⟨O, S, ⟨F, G, hp, hF, hG⟩, hs⟩ := h.sharing
  refine (disk_Copy.calls p n F G s w hp hpl).mono ?_
  rintro e w' ⟨pc, rfl, -, hpd, hb⟩
  exact ⟨pc, rfl, hs hb ⟨_, _, hpd, fun _ h => h, hG⟩⟩

end Go.Proofs.Ytbpkjkdbijifbaa.U
