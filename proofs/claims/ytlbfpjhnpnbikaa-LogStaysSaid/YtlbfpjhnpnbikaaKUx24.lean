/- Ux24: what this claim uses. Laid by slim.py (ours). -/
import Derived.Test.YtlbfpjhnpnbikaaKUx0
import Derived.Test.YtlbfpjhnpnbikaaKUx1
import Derived.Test.YtlbfpjhnpnbikaaKUx11
import Derived.Test.YtlbfpjhnpnbikaaKUx23
namespace Go.Proofs.Ytlbfpjhnpnbikaa.U
open Go.RowKit Go.Proofs.YtlbfpjhnpnbikaaW.PrintWords Go.Proofs.YtlbfpjhnpnbikaaW.PrintLast Go.Proofs.YtlbfpjhnpnbikaaW.PrintMore
attribute [local go_sem] max2_int min2_int max_two min_two max_three min_three max_four min_four
set_option linter.unusedVariables false
set_option linter.unusedSimpArgs false
theorem blk_range0 {w : World} {g : Nat} {cs : List Value} {t : TypeId} (h : X.Blk w g cs.toArray t) : w.rangeAt g 0 cs := by
  intro j v hj
  rw [Nat.zero_add]
  exact h.cell j v (by simpa using hj)
theorem spend_eq (s : X.DS) : s.blown = true → spend s = s := fun h => by unfold spend; rw [if_pos h]
theorem spend_eq' (s : X.DS) (h : s.blown = false) : spend s = { s with left := if s.set = true then s.left - 1 else s.left } := by
  unfold spend X.DS.spent
  rw [if_neg (by rw [h]; decide)]
  split <;> rfl
set_option maxHeartbeats 8000000 in
set_option maxRecDepth 100000 in
theorem undercroftref02_Disk_Write.calls (w0 w : World) (L : List X.Res) (p n : Nat) (s : X.DS) (i : Int) (A : Option Addr) (c : Nat) (xs : List Int) (h : X.Lies w0 w (.rdisk p n s :: L)) (hC : (Kd.int .u8).C w A xs.length xs) (hc : xs.length ≤ c) (hu : X.u8all xs = true) (hpl : s.pend.length ≤ 500000000000) (hgl : s.ghosts.length ≤ 500000000000) :
    Calls Try.prog 14 #[.pointer (some ⟨p, 0, none⟩), .int .i64 i, .slice A xs.length c] w fun e w' => e = .returned (.int .i64 (putE n i xs.length)) ∧ X.Lies w0 w' (.rdisk p n (put s n i xs) :: L) := by
  have HS := Aside0.mk h
  have HC := Aside0.mk hC
  have HU := Aside0.mk hu
  have HSZ := undercroftref02_Disk_Size.calls w0 w L p n s h
  clear h hC hu
  unfold putE put
  go_enter Try.func14, Try.ntmps14
  by_cases h0 : 0 ≤ i
  · have q0 : decide (i < 0) = false := decide_eq_false (by omega)
    by_cases hin : i < (n : Int)
    · have q1 : decide ((n : Int) ≤ i) = false := decide_eq_false (by omega)
      have hb : hasB i n = true := decide_eq_true ⟨h0, hin⟩
      by_cases hl : xs.length = 256
      · have q2 : ((xs.length : Int) == 256) = true := beq_iff_eq.mpr (by omega)
        rw [hb, if_pos rfl, if_pos hl, if_pos ⟨rfl, hl⟩]
        obtain ⟨j, rfl⟩ := Int.eq_ofNat_of_zero_le h0
        rw [Int.toNat_natCast]
        have hj : j < n := by omega
        have q11 : decide (n ≤ j) = false := decide_eq_false (by omega)
        have HB1 : Aside0 (Below w.heap.size w (w.alloc (.cells #[] 5))) := ⟨(Below.refl _ _).alloc (Nat.le_refl _) _⟩
        have HC1 : Aside0 ((Kd.int .u8).C (w.alloc (.cells #[] 5)) A xs.length xs) := ⟨Kd.C_below HC.out HB1.out⟩
        have HL := Aside0.mk hl
        have HJ := Aside0.mk hj
        clear hl hj hin h0 hb HC
        go_wp2_with fail
        refine HSZ.mono ?_
        rintro e w' ⟨rfl, rfl⟩
        clear HSZ
        go_wp2_with ((with_reducible refine gate_builtin (b := .append) (xs := #[.tmp 20, .tmp 21]) rfl ?_); at_builtin; refine Kd.R_append_row (Value.int .u8) (0 : Int) (w0 := w) w.heap.size rfl (.tmp 20) (.tmp 21) 22 5 (.int .u8 0) 1 rfl Try.underlying22 info5 rfl (by decide) _ [] xs A xs.length c (fun _ => True) rfl rfl (fun _ _ => trivial) (empty_row w) HC1.out HB1.out HB1.out.size (by have := HL.out; simp; omega) ?_; intro v1 w1 ho1 hb1 hg1 hat1; rw [List.nil_append] at ho1; have HS1 := Aside0.mk (HS.out.newRow (d := Kd.int .u8) hb1 ho1); obtain ⟨gd, cd, e1, -⟩ := Kd.R_form ho1 (by rw [HL.out]; decide); subst e1; clear ho1 hb1 hg1 hat1 HS HC1 HB1)
        have HS2 := Aside0.mk ((HS1.out.alloc #[.int .i64 (j : Int), .slice (some ⟨gd, 0, none⟩) xs.length cd] 66).perm [2, 0, 1] 3 (by decide) (by decide))
        obtain ⟨gw, hgw⟩ : ∃ gw, gw = w1.heap.size := ⟨_, rfl⟩
        rw [← hgw] at HS2 ⊢
        generalize w1.alloc _ = w2 at *
        clear HS1 hgw
        refine (undercroftref02_Disk_blown.calls w0 w2 _ p n s HS2.out).mono ?_
        rintro e w3 ⟨rfl, hs⟩
        obtain ⟨sb, sp, sg, st, sl0⟩ := s
        clear HS2
        rcases hbl : X.DS.blown ⟨sb, sp, sg, st, sl0⟩ with _ | _
        · rw [spend_eq' _ hbl] at hs
          obtain ⟨sl, hsl⟩ : ∃ sl, sl = if st = true then sl0 - 1 else sl0 := ⟨_, rfl⟩
          have HE := Aside0.mk hsl
          try simp only at hs
          rw [← hsl] at hs
          obtain ⟨v0, v1, v2, hok, hs⟩ := hs.rdisk
          have HOK := Aside0.mk hok
          clear hsl hok
          have HS5 := Aside0.mk (hs.perm [2, 5, 0, 1, 3, 4] 6 (by decide) (by decide))
          clear hs
          go_wp2_with fail
          refine start_ (n := 11) (S := (fun w' => X.Blk w' p #[v0, v1, v2, .bool st, .int .i64 (sl : Int)] 75 ∧ X.Blk w' gw #[.int .i64 (j : Int), .slice (some ⟨gd, 0, none⟩) xs.length cd] 66)) (ds := [10]) #[false, false, false, false, false, false, false, false, false, false, false] (by kernel_rfl) rfl rfl ⟨HS5.out.drew.boxed 2 rfl, HS5.out.drew.boxed 5 rfl⟩ (fun hHeld => ?_)
          have HSa := Aside0.mk (HS5.out.drew)
          generalize World.drew _ = wa at *
          clear HS5
          refine pure_ (i := 0) (N := some 36) (v := ?_) (a' := ?_) #[true, false, false, false, false, false, false, false, false, false, false] rfl rfl (by kernel_rfl) (fun _ _ _ h => h) (Or.inl ⟨by rfl, ?_⟩) ?_ ?_
          rotate_left
          · intro w'
            go_simp
            with_reducible rfl
          rotate_left
          · simp only [Act.put, List.setIfInBounds_toArray, List.set_cons_zero, List.set_cons_succ, i64_w, i32_w]
            rfl
          refine pure_ (i := 1) (N := some 37) (v := ?_) (a' := ?_) #[true, true, false, false, false, false, false, false, false, false, false] rfl rfl (by kernel_rfl) (fun _ _ _ h => h) (Or.inl ⟨by rfl, ?_⟩) ?_ ?_
          rotate_left
          · intro w'
            go_simp
            with_reducible rfl
          rotate_left
          · simp only [Act.put, List.setIfInBounds_toArray, List.set_cons_zero, List.set_cons_succ, i64_w, i32_w]
            rfl
          refine pure_ (i := 2) (N := some 38) (v := ?_) (a' := ?_) #[true, true, true, false, false, false, false, false, false, false, false] rfl rfl (by kernel_rfl) (fun _ _ _ h => h) (Or.inl ⟨by rfl, ?_⟩) ?_ ?_
          rotate_left
          · intro w'
            go_simp
            with_reducible rfl
          rotate_left
          · simp only [Act.put, List.setIfInBounds_toArray, List.set_cons_zero, List.set_cons_succ, i64_w, i32_w]
            rfl
          refine pure_ (i := 3) (N := some 39) (v := ?_) (a' := ?_) #[true, true, true, true, false, false, false, false, false, false, false] rfl rfl (by kernel_rfl) (fun _ _ _ h => h) (Or.inl ⟨by rfl, ?_⟩) ?_ ?_
          rotate_left
          · intro w'
            go_simp
            with_reducible rfl
          rotate_left
          · simp only [Act.put, List.setIfInBounds_toArray, List.set_cons_zero, List.set_cons_succ, i64_w, i32_w]
            rfl
          refine take_ (i := 4) (N := some 40) (v := v1) (a' := ?_) #[true, true, true, true, true, false, false, false, false, false, false] rfl rfl (by kernel_rfl) (fun _ _ _ h => h) (Or.inl ⟨by rfl, ?_⟩) hHeld ?_ ?_
          · intro w' hs_
            obtain ⟨hs0, hs1⟩ := hs_
            exact (by have x1_ := hs0.cell 1 _ rfl; go_simp; done)
          rotate_left
          · simp only [Act.put, List.setIfInBounds_toArray, List.set_cons_zero, List.set_cons_succ, i64_w, i32_w]
            rfl
          refine take_ (i := 5) (N := some 41) (v := .agg #[.int .i64 (j : Int), .slice (some ⟨gd, 0, none⟩) xs.length cd]) (a' := ?_) #[true, true, true, true, true, true, false, false, false, false, false] rfl rfl (by kernel_rfl) (fun _ _ _ h => h) (Or.inl ⟨by rfl, ?_⟩) hHeld ?_ ?_
          · intro w' hs_
            obtain ⟨hs0, hs1⟩ := hs_
            exact X.load_exec 66 (.tmp 7) (by rfl) gw 0 (by rfl) [.int .i64 (j : Int), .slice (some ⟨gd, 0, none⟩) xs.length cd] _ (blk_range0 hs1) Try.underlying66 rfl info_v
          rotate_left
          · simp only [Act.put, List.setIfInBounds_toArray, List.set_cons_zero, List.set_cons_succ, i64_w, i32_w]
            rfl
          refine one_ (i := 6) (N := some 42) #[true, true, true, true, true, true, true, false, false, false, false] rfl rfl (by kernel_rfl) (by decide) (fun K hK => ?_)
          refine X.val_ (by rfl) rfl (X.slice_exec (.tmp 41) (by rfl) _ _ (by rfl) (slice_v wa [.int .i64 (j : Int), .slice (some ⟨gd, 0, none⟩) xs.length cd] rfl)) ?_
          have HSb := Aside0.mk (HSa.out.alloc #[.int .i64 (j : Int), .slice (some ⟨gd, 0, none⟩) xs.length cd] 66)
          obtain ⟨gv, hgv⟩ : ∃ gv, gv = wa.heap.size := ⟨_, rfl⟩
          rw [← hgv] at HSb ⊢
          generalize wa.alloc _ = wb at *
          clear HSa hgv hHeld
          refine hK.out _ _ ⟨HSb.out.boxed 3 rfl, HSb.out.boxed 6 rfl⟩ (fun hHeld => ?_)
          clear hK K
          refine norm_ (a' := ?_) ?_ ?_
          rotate_left
          · show Act.put _ (some 42) _ = _
            simp only [Act.put, List.setIfInBounds_toArray, List.set_cons_zero, List.set_cons_succ, i64_w, i32_w]
            rfl
          have HXC := Aside0.mk (X.C_raw_one (HSb.out.boxed 0 rfl) rfl (by intro v hv; rcases List.mem_cons.1 hv with rfl | hv; rfl; rcases List.mem_cons.1 hv with rfl | hv; rfl; cases hv))
          obtain ⟨hm, cells, ok, hR, hcl, hfr, hadd⟩ := (HSb.out.tail).wadd (b := j)
          refine one_ (i := 7) (N := some 43) #[true, true, true, true, true, true, true, true, false, false, false] rfl rfl (by kernel_rfl) (by decide) (fun K hK => ?_)
          refine Kd.R_append_rows_step (Kd.raw 2) (w0 := wb) 0 (by rfl) (.tmp 40) (.tmp 42) 57 66 (.agg zeroV) 32 rfl Try.underlying57 info_v3 rfl (by decide) (by decide) _ cells [[.int .i64 (j : Int), .slice (some ⟨gd, 0, none⟩) xs.length cd]] _ _ _ ok (fun _ => False) (by rfl) (by rfl) hR HXC.out (fun _ _ h => h) (fun _ h => h.elim) hfr (Below.refl 0 wb) (Nat.zero_le _) (by rw [hcl]; omega) ?_
          intro v6 w6 hr6 hb6 hg6 ha6
          have HS6 := Aside0.mk (hadd hr6 hg6)
          obtain ⟨A6, c6, e6, -, -⟩ := HS6.out.wform 0 rfl
          generalize hL6 : (sp ++ [(j, xs)]).length = L6 at e6
          subst e6
          clear hL6 hr6 hb6 hg6 ha6 hadd hR hcl hfr HXC HSb hHeld
          refine hK.out _ _ ⟨HS6.out.boxed 1 rfl, HS6.out.boxed 4 rfl⟩ (fun hHeld => ?_)
          clear hK K
          refine norm_ (a' := ?_) ?_ ?_
          rotate_left
          · show Act.put _ (some 43) _ = _
            simp only [Act.put, List.setIfInBounds_toArray, List.set_cons_zero, List.set_cons_succ, i64_w, i32_w]
            rfl
          refine pure_ (i := 8) (N := some 44) (v := ?_) (a' := ?_) #[true, true, true, true, true, true, true, true, true, false, false] rfl rfl (by kernel_rfl) (fun _ _ _ h => h) (Or.inl ⟨by rfl, ?_⟩) ?_ ?_
          rotate_left
          · intro w'
            go_simp
            with_reducible rfl
          rotate_left
          · simp only [Act.put, List.setIfInBounds_toArray, List.set_cons_zero, List.set_cons_succ, i64_w, i32_w]
            rfl
          refine pure_ (i := 9) (N := some 45) (v := ?_) (a' := ?_) #[true, true, true, true, true, true, true, true, true, true, false] rfl rfl (by kernel_rfl) (fun _ _ _ h => h) (Or.inl ⟨by rfl, ?_⟩) ?_ ?_
          rotate_left
          · intro w'
            go_simp
            with_reducible rfl
          rotate_left
          · simp only [Act.put, List.setIfInBounds_toArray, List.set_cons_zero, List.set_cons_succ, i64_w, i32_w]
            rfl
          refine last_ (i := 10) (N := none) #[true, true, true, true, true, true, true, true, true, true, true] rfl rfl (by kernel_rfl) (by decide) (fun K hK => ?_)
          have c1_ := (HS6.out.boxed 1 rfl).cell 1 _ rfl
          have f1_ := (HS6.out.boxed 1 rfl).free 1
          refine skip_ (w1 := ?_) (by rfl) rfl ?_ ?_
          rotate_left
          · go_simp
            rfl
          have HS7 := Aside0.mk ((HS6.out.perm [1, 2, 0, 3] 5 (by decide) (by decide)).set 1 (.slice A6 L6 c6))
          clear c1_ f1_ HS6 hHeld
          refine hK.out _ _ ?_
          clear hK K
          refine done_ (by kernel_rfl) ?_
          go_wp2_with fail
          go_ret
          refine ⟨rfl, ?_⟩
          have hs := HS7.out.perm [0, 1, 2, 3] 4 (by decide) (by decide)
          have e : X.DS.write ⟨sb, sp, sg, st, sl0⟩ j xs = ⟨sb, sp ++ [(j, xs)], sg, st, sl⟩ := by
            unfold X.DS.write
            rw [if_neg (fun h => by have hb2 : X.DS.blown ⟨sb, sp, sg, st, sl0⟩ = true := h; rw [hbl] at hb2; cases hb2), ← HE.out]
          rw [e]
          refine X.Lies.mkRdisk ⟨HOK.out.len, HOK.out.n1, HOK.out.n2, HOK.out.u8, fun x hx => (List.mem_append.1 hx).elim (HOK.out.pend x) (fun h => by rw [List.mem_singleton.1 h]; exact ⟨HJ.out, HL.out, HU.out⟩), HOK.out.ghosts, HOK.out.left⟩ hs
        · rw [spend_eq _ hbl] at hs
          obtain ⟨sl, hsl⟩ : ∃ sl, sl = sl0 := ⟨_, rfl⟩
          have HE := Aside0.mk hsl
          try simp only at hs
          rw [← hsl] at hs
          obtain ⟨v0, v1, v2, hok, hs⟩ := hs.rdisk
          have HOK := Aside0.mk hok
          clear hsl hok
          have HS5 := Aside0.mk (hs.perm [3, 5, 0, 1, 2, 4] 6 (by decide) (by decide))
          clear hs
          go_wp2_with fail
          refine start_ (n := 11) (S := (fun w' => X.Blk w' p #[v0, v1, v2, .bool st, .int .i64 (sl : Int)] 75 ∧ X.Blk w' gw #[.int .i64 (j : Int), .slice (some ⟨gd, 0, none⟩) xs.length cd] 66)) (ds := [10]) #[false, false, false, false, false, false, false, false, false, false, false] (by kernel_rfl) rfl rfl ⟨HS5.out.drew.boxed 2 rfl, HS5.out.drew.boxed 5 rfl⟩ (fun hHeld => ?_)
          have HSa := Aside0.mk (HS5.out.drew)
          generalize World.drew _ = wa at *
          clear HS5
          refine pure_ (i := 0) (N := some 26) (v := ?_) (a' := ?_) #[true, false, false, false, false, false, false, false, false, false, false] rfl rfl (by kernel_rfl) (fun _ _ _ h => h) (Or.inl ⟨by rfl, ?_⟩) ?_ ?_
          rotate_left
          · intro w'
            go_simp
            with_reducible rfl
          rotate_left
          · simp only [Act.put, List.setIfInBounds_toArray, List.set_cons_zero, List.set_cons_succ, i64_w, i32_w]
            rfl
          refine pure_ (i := 1) (N := some 27) (v := ?_) (a' := ?_) #[true, true, false, false, false, false, false, false, false, false, false] rfl rfl (by kernel_rfl) (fun _ _ _ h => h) (Or.inl ⟨by rfl, ?_⟩) ?_ ?_
          rotate_left
          · intro w'
            go_simp
            with_reducible rfl
          rotate_left
          · simp only [Act.put, List.setIfInBounds_toArray, List.set_cons_zero, List.set_cons_succ, i64_w, i32_w]
            rfl
          refine pure_ (i := 2) (N := some 28) (v := ?_) (a' := ?_) #[true, true, true, false, false, false, false, false, false, false, false] rfl rfl (by kernel_rfl) (fun _ _ _ h => h) (Or.inl ⟨by rfl, ?_⟩) ?_ ?_
          rotate_left
          · intro w'
            go_simp
            with_reducible rfl
          rotate_left
          · simp only [Act.put, List.setIfInBounds_toArray, List.set_cons_zero, List.set_cons_succ, i64_w, i32_w]
            rfl
          refine pure_ (i := 3) (N := some 29) (v := ?_) (a' := ?_) #[true, true, true, true, false, false, false, false, false, false, false] rfl rfl (by kernel_rfl) (fun _ _ _ h => h) (Or.inl ⟨by rfl, ?_⟩) ?_ ?_
          rotate_left
          · intro w'
            go_simp
            with_reducible rfl
          rotate_left
          · simp only [Act.put, List.setIfInBounds_toArray, List.set_cons_zero, List.set_cons_succ, i64_w, i32_w]
            rfl
          refine take_ (i := 4) (N := some 30) (v := v2) (a' := ?_) #[true, true, true, true, true, false, false, false, false, false, false] rfl rfl (by kernel_rfl) (fun _ _ _ h => h) (Or.inl ⟨by rfl, ?_⟩) hHeld ?_ ?_
          · intro w' hs_
            obtain ⟨hs0, hs1⟩ := hs_
            exact (by have x1_ := hs0.cell 2 _ rfl; go_simp; done)
          rotate_left
          · simp only [Act.put, List.setIfInBounds_toArray, List.set_cons_zero, List.set_cons_succ, i64_w, i32_w]
            rfl
          refine take_ (i := 5) (N := some 31) (v := .agg #[.int .i64 (j : Int), .slice (some ⟨gd, 0, none⟩) xs.length cd]) (a' := ?_) #[true, true, true, true, true, true, false, false, false, false, false] rfl rfl (by kernel_rfl) (fun _ _ _ h => h) (Or.inl ⟨by rfl, ?_⟩) hHeld ?_ ?_
          · intro w' hs_
            obtain ⟨hs0, hs1⟩ := hs_
            exact X.load_exec 66 (.tmp 7) (by rfl) gw 0 (by rfl) [.int .i64 (j : Int), .slice (some ⟨gd, 0, none⟩) xs.length cd] _ (blk_range0 hs1) Try.underlying66 rfl info_v
          rotate_left
          · simp only [Act.put, List.setIfInBounds_toArray, List.set_cons_zero, List.set_cons_succ, i64_w, i32_w]
            rfl
          refine one_ (i := 6) (N := some 32) #[true, true, true, true, true, true, true, false, false, false, false] rfl rfl (by kernel_rfl) (by decide) (fun K hK => ?_)
          refine X.val_ (by rfl) rfl (X.slice_exec (.tmp 31) (by rfl) _ _ (by rfl) (slice_v wa [.int .i64 (j : Int), .slice (some ⟨gd, 0, none⟩) xs.length cd] rfl)) ?_
          have HSb := Aside0.mk (HSa.out.alloc #[.int .i64 (j : Int), .slice (some ⟨gd, 0, none⟩) xs.length cd] 66)
          obtain ⟨gv, hgv⟩ : ∃ gv, gv = wa.heap.size := ⟨_, rfl⟩
          rw [← hgv] at HSb ⊢
          generalize wa.alloc _ = wb at *
          clear HSa hgv hHeld
          refine hK.out _ _ ⟨HSb.out.boxed 3 rfl, HSb.out.boxed 6 rfl⟩ (fun hHeld => ?_)
          clear hK K
          refine norm_ (a' := ?_) ?_ ?_
          rotate_left
          · show Act.put _ (some 32) _ = _
            simp only [Act.put, List.setIfInBounds_toArray, List.set_cons_zero, List.set_cons_succ, i64_w, i32_w]
            rfl
          have HXC := Aside0.mk (X.C_raw_one (HSb.out.boxed 0 rfl) rfl (by intro v hv; rcases List.mem_cons.1 hv with rfl | hv; rfl; rcases List.mem_cons.1 hv with rfl | hv; rfl; cases hv))
          obtain ⟨hm, cells, ok, hR, hcl, hfr, hadd⟩ := (HSb.out.tail).wadd (b := j)
          refine one_ (i := 7) (N := some 33) #[true, true, true, true, true, true, true, true, false, false, false] rfl rfl (by kernel_rfl) (by decide) (fun K hK => ?_)
          refine Kd.R_append_rows_step (Kd.raw 2) (w0 := wb) 0 (by rfl) (.tmp 30) (.tmp 32) 57 66 (.agg zeroV) 32 rfl Try.underlying57 info_v3 rfl (by decide) (by decide) _ cells [[.int .i64 (j : Int), .slice (some ⟨gd, 0, none⟩) xs.length cd]] _ _ _ ok (fun _ => False) (by rfl) (by rfl) hR HXC.out (fun _ _ h => h) (fun _ h => h.elim) hfr (Below.refl 0 wb) (Nat.zero_le _) (by rw [hcl]; omega) ?_
          intro v6 w6 hr6 hb6 hg6 ha6
          have HS6 := Aside0.mk (hadd hr6 hg6)
          obtain ⟨A6, c6, e6, -, -⟩ := HS6.out.wform 0 rfl
          generalize hL6 : (sg ++ [(j, xs)]).length = L6 at e6
          subst e6
          clear hL6 hr6 hb6 hg6 ha6 hadd hR hcl hfr HXC HSb hHeld
          refine hK.out _ _ ⟨HS6.out.boxed 1 rfl, HS6.out.boxed 4 rfl⟩ (fun hHeld => ?_)
          clear hK K
          refine norm_ (a' := ?_) ?_ ?_
          rotate_left
          · show Act.put _ (some 33) _ = _
            simp only [Act.put, List.setIfInBounds_toArray, List.set_cons_zero, List.set_cons_succ, i64_w, i32_w]
            rfl
          refine pure_ (i := 8) (N := some 34) (v := ?_) (a' := ?_) #[true, true, true, true, true, true, true, true, true, false, false] rfl rfl (by kernel_rfl) (fun _ _ _ h => h) (Or.inl ⟨by rfl, ?_⟩) ?_ ?_
          rotate_left
          · intro w'
            go_simp
            with_reducible rfl
          rotate_left
          · simp only [Act.put, List.setIfInBounds_toArray, List.set_cons_zero, List.set_cons_succ, i64_w, i32_w]
            rfl
          refine pure_ (i := 9) (N := some 35) (v := ?_) (a' := ?_) #[true, true, true, true, true, true, true, true, true, true, false] rfl rfl (by kernel_rfl) (fun _ _ _ h => h) (Or.inl ⟨by rfl, ?_⟩) ?_ ?_
          rotate_left
          · intro w'
            go_simp
            with_reducible rfl
          rotate_left
          · simp only [Act.put, List.setIfInBounds_toArray, List.set_cons_zero, List.set_cons_succ, i64_w, i32_w]
            rfl
          refine last_ (i := 10) (N := none) #[true, true, true, true, true, true, true, true, true, true, true] rfl rfl (by kernel_rfl) (by decide) (fun K hK => ?_)
          have c1_ := (HS6.out.boxed 1 rfl).cell 2 _ rfl
          have f1_ := (HS6.out.boxed 1 rfl).free 2
          refine skip_ (w1 := ?_) (by rfl) rfl ?_ ?_
          rotate_left
          · go_simp
            rfl
          have HS7 := Aside0.mk ((HS6.out.perm [1, 2, 0, 3] 5 (by decide) (by decide)).set 2 (.slice A6 L6 c6))
          clear c1_ f1_ HS6 hHeld
          refine hK.out _ _ ?_
          clear hK K
          refine done_ (by kernel_rfl) ?_
          go_wp2_with fail
          go_ret
          refine ⟨rfl, ?_⟩
          have hs := HS7.out.perm [0, 1, 3, 2] 4 (by decide) (by decide)
          have e : X.DS.write ⟨sb, sp, sg, st, sl0⟩ j xs = ⟨sb, sp, sg ++ [(j, xs)], st, sl⟩ := by
            unfold X.DS.write
            have hb2 : ((X.DS.mk sb sp sg st sl0).set && decide ((X.DS.mk sb sp sg st sl0).left = 0)) = true := hbl
            rw [if_pos hb2, HE.out]
          rw [e]
          refine X.Lies.mkRdisk ⟨HOK.out.len, HOK.out.n1, HOK.out.n2, HOK.out.u8, HOK.out.pend, fun x hx => (List.mem_append.1 hx).elim (HOK.out.ghosts x) (fun h => by rw [List.mem_singleton.1 h]; exact ⟨HJ.out, HL.out, HU.out⟩), HOK.out.left⟩ hs
      · have q2 : ((xs.length : Int) == 256) = false := beq_eq_false_iff_ne.mpr (by omega)
        have q3 : (xs.length == 256) = false := beq_eq_false_iff_ne.mpr hl
        rw [hb, if_pos rfl, if_neg hl, if_neg (fun h => hl h.2)]
        clear hl hb
        go_wp2_with fail
        refine HSZ.mono ?_
        rintro e w' ⟨rfl, rfl⟩
        go_wp2
        go_ret
        exact ⟨rfl, HS.out⟩
    · have q1 : decide ((n : Int) ≤ i) = true := decide_eq_true (by omega)
      have hb : hasB i n = false := decide_eq_false (fun h => hin h.2)
      rw [hb, if_neg (by decide), if_neg (fun h => by cases h.1)]
      clear hb
      go_wp2_with fail
      refine HSZ.mono ?_
      rintro e w' ⟨rfl, rfl⟩
      go_wp2
      go_ret
      exact ⟨rfl, HS.out⟩
  · have q0 : decide (i < 0) = true := decide_eq_true (by omega)
    have hb : hasB i n = false := decide_eq_false (fun h => h0 h.1)
    rw [hb, if_neg (by decide), if_neg (fun h => by cases h.1)]
    clear hb
    go_wp2
    go_ret
    exact ⟨rfl, HS.out⟩
end Go.Proofs.Ytlbfpjhnpnbikaa.U
