/- Ux18: what this claim uses. Laid by slim.py (ours). -/
import Derived.Test.YtlbfpjhnpnbikaaKPLog
import Derived.Test.YtlbfpjhnpnbikaaKUx0
import Derived.Test.YtlbfpjhnpnbikaaKUx1
import Derived.Test.YtlbfpjhnpnbikaaKUx9
import Derived.Test.YtlbfpjhnpnbikaaKUx11
import Derived.Test.YtlbfpjhnpnbikaaKUx12
import Derived.Test.YtlbfpjhnpnbikaaKUx13
import Derived.Test.YtlbfpjhnpnbikaaKUx17
import Derived.Test.YtlbfpjhnpnbikaaKUx23
namespace Go.Proofs.Ytlbfpjhnpnbikaa.U
open Go.RowKit Go.Proofs.YtlbfpjhnpnbikaaW.PrintWords Go.Proofs.YtlbfpjhnpnbikaaW.PrintLast Go.Proofs.YtlbfpjhnpnbikaaW.PrintMore
attribute [local go_sem] max2_int min2_int max_two min_two max_three min_three max_four min_four
set_option linter.unusedVariables false
set_option linter.unusedSimpArgs false
theorem clone_part (w0 w : World) (L : List X.Res) (A : Option Addr) (c : Nat) (xs : List Int) (h : X.Lies w0 w L) (hC : (Kd.int .u8).C w A xs.length xs) (hc : xs.length ≤ c) (hl : xs.length ≤ 140737488351232) :
    Calls Try.prog 50 #[.slice A xs.length c] w fun e w' => ∃ B d, e = .returned (.slice B xs.length d) ∧ X.Lies w0 w' (.row (Kd.int .u8) 5 (.slice B xs.length d) xs :: L) := by
  have hf : bytes_Clone.f xs = some xs := if_pos hl
  have h2 := bytes_Clone.calls A c xs xs w hC hc hf
  refine h2.mono ?_
  rintro e w' ⟨v, rfl, hr, hb⟩
  obtain ⟨B, d, rfl⟩ := Kd.R_slice hr
  exact ⟨B, d, rfl, h.newRow hb hr⟩
set_option maxHeartbeats 16000000 in
set_option maxRecDepth 100000 in
theorem log_Append.part (w0 w : World) (L : List X.Res) (g p n : Nat) (d : X.DS) (ls : Pure.LS) (A1 : Option Addr) (c1 : Nat) (ws : List S66) (A2 : Option Addr) (c2 : Nat) (rs : List Int)
    (h : X.Lies w0 w (.disk p n d :: Pure.logP g p ls :: L)) (hok : ls.Ok n) (hr1 : X.Rd w0 L fun w' => Kd.C k66 w' A1 ws.length ws) (hc1 : ws.length ≤ c1) (hr2 : X.Rd w0 L fun w' => Kd.C (Kd.int .i64) w' A2 rs.length rs) (hc2 : rs.length ≤ c2) (hcm : Pure.Came ls.seq ws rs) (hpl : d.pend.length ≤ 100000000) (hll : ls.live.length ≤ 1000) :
    Calls Try.prog 22 #[.pointer (some ⟨g, 0, none⟩), .slice A1 ws.length c1, .slice A2 rs.length c2] w fun e w' => e = .returned (.tuple #[.int .u64 (Pure.appQ n ls ws rs), .int .i64 (Pure.appE n ls ws rs)]) ∧ X.Lies w0 w' (.disk p n (Pure.appD n d ls ws rs) :: Pure.logP g p (Pure.appS n ls ws rs) :: L) := by
  obtain ⟨Al, cl, h2, hgl⟩ := Pure.logP_open h.swap
  have HS := Aside0.mk (h2.perm [2, 0, 1] 3 (by decide) (by decide))
  have HGL := Aside0.mk hgl
  have HOK := Aside0.mk hok
  have HR1 := Aside0.mk hr1
  have HR2 := Aside0.mk hr2
  have HC1 := Aside0.mk hc1
  have HC2 := Aside0.mk hc2
  have HCM := Aside0.mk hcm
  have HPL := Aside0.mk hpl
  have HLL := Aside0.mk hll
  obtain ⟨sq, hsq⟩ : ∃ sq : Int, sq = ls.seq := ⟨_, rfl⟩
  have HSQ := Aside0.mk hsq
  clear h h2 hgl hok hr1 hr2 hc1 hc2 hcm hpl hll hsq
  go_enter Try.func22, Try.ntmps22
  go_wp2_with fail
  refine start_ (n := 9) (S := (fun w' => X.Blk w' g (Pure.logC p ls (.slice Al ls.live.length cl)) 93)) (ds := [8]) #[false, false, false, false, false, false, false, false, false] (by kernel_rfl) rfl rfl (HS.out.drew.boxed 1 rfl) (fun hHeld => ?_)
  have HSa := Aside0.mk (HS.out.drew)
  generalize World.drew _ = wa at *
  clear HS
  refine pure_ (i := 0) (N := some 20) (v := ?_) (a' := ?_) #[true, false, false, false, false, false, false, false, false] rfl rfl (by kernel_rfl) (fun _ _ _ h => h) (Or.inl ⟨by rfl, ?_⟩) ?_ ?_
  rotate_left
  · intro w'
    go_simp
    with_reducible rfl
  rotate_left
  · simp only [Act.put, List.setIfInBounds_toArray, List.set_cons_zero, List.set_cons_succ, i64_w, i32_w]
    rfl
  refine pure_ (i := 1) (N := some 21) (v := ?_) (a' := ?_) #[true, true, false, false, false, false, false, false, false] rfl rfl (by kernel_rfl) (fun _ _ _ h => h) (Or.inl ⟨by rfl, ?_⟩) ?_ ?_
  rotate_left
  · intro w'
    go_simp
    with_reducible rfl
  rotate_left
  · simp only [Act.put, List.setIfInBounds_toArray, List.set_cons_zero, List.set_cons_succ, i64_w, i32_w]
    rfl
  refine pure_ (i := 2) (N := some 22) (v := ?_) (a' := ?_) #[true, true, true, false, false, false, false, false, false] rfl rfl (by kernel_rfl) (fun _ _ _ h => h) (Or.inl ⟨by rfl, ?_⟩) ?_ ?_
  rotate_left
  · intro w'
    go_simp
    with_reducible rfl
  rotate_left
  · simp only [Act.put, List.setIfInBounds_toArray, List.set_cons_zero, List.set_cons_succ, i64_w, i32_w]
    rfl
  refine take_ (i := 3) (N := some 23) (v := .int .u64 sq) (a' := ?_) #[true, true, true, true, false, false, false, false, false] rfl rfl (by kernel_rfl) (fun _ _ _ h => h) (Or.inl ⟨by rfl, ?_⟩) hHeld ?_ ?_
  · intro w' hs_
    exact (by have x_ : w'.cell? ⟨g, 3, none⟩ = some (.int .u64 sq) := (by rw [HSQ.out]; exact hs_.cell 3 _ rfl); go_simp; done)
  rotate_left
  · simp only [Act.put, List.setIfInBounds_toArray, List.set_cons_zero, List.set_cons_succ, i64_w, i32_w]
    rfl
  refine pure_ (i := 4) (N := some 24) (v := ?_) (a' := ?_) #[true, true, true, true, true, false, false, false, false] rfl rfl (by kernel_rfl) (fun _ _ _ h => h) (Or.inl ⟨by rfl, ?_⟩) ?_ ?_
  rotate_left
  · intro w'
    go_simp
    with_reducible rfl
  rotate_left
  · simp only [Act.put, List.setIfInBounds_toArray, List.set_cons_zero, List.set_cons_succ, i64_w, i32_w]
    rfl
  refine join_ (σ := Option Addr × Nat × Nat) 1 #[true, true, true, true, true, true, true, true, false] (fun s_ => [(25, .slice s_.1 rs.length s_.2.1), (26, .agg #[.int .u64 sq, .slice none 0 0, .slice s_.1 rs.length s_.2.1]), (8, .pointer (some ⟨s_.2.2, 0, none⟩))]) (fun s_ w' => X.Lies w0 w' (.box s_.2.2 #[.int .u64 0, .slice none 0 0, .slice none 0 0] 60 :: .row (Kd.int .i64) 3 (.slice s_.1 rs.length s_.2.1) rs :: .disk p n d :: .box g (Pure.logC p ls (.slice Al ls.live.length cl)) 93 :: .rows k60 60 (.slice Al ls.live.length cl) ls.live :: L)) ?_ (fun hCont => ?_)
  rotate_left
  refine two_ (i := 5) (j := 7) (Ni := some 25) (Nj := some 8) #[true, true, true, true, true, true, false, false, false] #[true, true, true, true, true, false, false, true, false] rfl rfl rfl rfl (by kernel_rfl) (by decide) (by decide) (fun K hK => ?_) (fun K hK => ?_)
  · skip
    refine Kd.R_append_rows_step (Kd.int .i64) (w0 := wa) wa.heap.size (by rfl) (.const (.slice none 0 0)) (.tmp 24) 58 3 (.int .i64 0) 8 rfl Try.underlying58 Pure.infoI3 rfl (by decide) (by decide) (.slice none 0 0) [] rs A2 rs.length c2 (fun _ => True) (fun _ => False) (by rfl) (by rfl) (Kd.R_nil _ _ _ _ _) (HR2.out _ (HSa.out.tail.tail.tail)) (fun _ _ h => h) (fun _ h => h.elim) (fun _ _ => trivial) (Below.refl _ _) (Nat.le_refl _) (by have := HCM.out.lr; rw [List.length_nil]; omega) ?_
    intro v1_ w1_ hr1_ hb1_ hg1_ ha1_
    rw [List.nil_append] at hr1_
    have HSq := Aside0.mk ((HSa.out).newRow hb1_ hr1_)
    obtain ⟨Br, dr, rfl⟩ := Kd.R_slice hr1_
    clear hr1_ hb1_ hg1_ ha1_
    refine hK.out _ _ (HSq.out.boxed 2 rfl) (fun hHeld => ?_)
    clear hK K
    refine norm_ (a' := ?_) ?_ ?_
    rotate_left
    · show Act.put _ (some 25) _ = _
      simp only [Act.put, List.setIfInBounds_toArray, List.set_cons_zero, List.set_cons_succ, i64_w, i32_w]
      rfl
    refine pure_ (i := 6) (N := some 26) (v := ?_) (a' := ?_) #[true, true, true, true, true, true, true, false, false] rfl rfl (by kernel_rfl) (fun _ _ _ h => h) (Or.inl ⟨by rfl, ?_⟩) ?_ ?_
    rotate_left
    · intro w'
      go_simp
      with_reducible rfl
    rotate_left
    · simp only [Act.put, List.setIfInBounds_toArray, List.set_cons_zero, List.set_cons_succ, i64_w, i32_w]
      rfl
    refine one_ (i := 7) (N := some 8) #[true, true, true, true, true, true, true, true, false] rfl rfl (by kernel_rfl) (by decide) (fun K hK => ?_)
    refine X.val_ (w1 := w1_.alloc (.cells #[.int .u64 0, .slice none 0 0, .slice none 0 0] 60)) (v := .pointer (some ⟨w1_.heap.size, 0, none⟩)) (by rfl) rfl (by first | (go_simp; done) | (go_simp; rfl)) ?_
    have HSp := Aside0.mk ((HSq.out).alloc #[.int .u64 0, .slice none 0 0, .slice none 0 0] 60)
    obtain ⟨gt, hgt⟩ : ∃ gt, gt = w1_.heap.size := ⟨_, rfl⟩
    rw [← hgt] at HSp ⊢
    clear hgt
    refine hK.out _ _ (HSp.out.boxed 3 rfl) (fun hHeld => ?_)
    clear hK K
    refine norm_ (a' := ?_) ?_ ?_
    rotate_left
    · show Act.put _ (some 8) _ = _
      simp only [Act.put, List.setIfInBounds_toArray, List.set_cons_zero, List.set_cons_succ, i64_w, i32_w]
      rfl
    exact norm_ (by simp only [putAll, Act.put, List.setIfInBounds_toArray, List.set_cons_zero, List.set_cons_succ]) (hCont (Br, dr, gt) _ HSp.out)
  · skip
    refine X.val_ (w1 := wa.alloc (.cells #[.int .u64 0, .slice none 0 0, .slice none 0 0] 60)) (v := .pointer (some ⟨wa.heap.size, 0, none⟩)) (by rfl) rfl (by first | (go_simp; done) | (go_simp; rfl)) ?_
    have HSp := Aside0.mk ((HSa.out).alloc #[.int .u64 0, .slice none 0 0, .slice none 0 0] 60)
    obtain ⟨gt, hgt⟩ : ∃ gt, gt = wa.heap.size := ⟨_, rfl⟩
    rw [← hgt] at HSp ⊢
    clear hgt
    refine hK.out _ _ (HSp.out.boxed 2 rfl) (fun hHeld => ?_)
    clear hK K
    refine norm_ (a' := ?_) ?_ ?_
    rotate_left
    · show Act.put _ (some 8) _ = _
      simp only [Act.put, List.setIfInBounds_toArray, List.set_cons_zero, List.set_cons_succ, i64_w, i32_w]
      rfl
    generalize wa.alloc _ = wb at *
    refine one_ (i := 5) (N := some 25) #[true, true, true, true, true, true, false, true, false] rfl rfl (by kernel_rfl) (by decide) (fun K hK => ?_)
    refine Kd.R_append_rows_step (Kd.int .i64) (w0 := wb) wb.heap.size (by rfl) (.const (.slice none 0 0)) (.tmp 24) 58 3 (.int .i64 0) 8 rfl Try.underlying58 Pure.infoI3 rfl (by decide) (by decide) (.slice none 0 0) [] rs A2 rs.length c2 (fun _ => True) (fun _ => False) (by rfl) (by rfl) (Kd.R_nil _ _ _ _ _) (HR2.out _ (HSp.out.tail.tail.tail.tail)) (fun _ _ h => h) (fun _ h => h.elim) (fun _ _ => trivial) (Below.refl _ _) (Nat.le_refl _) (by have := HCM.out.lr; rw [List.length_nil]; omega) ?_
    intro v1_ w1_ hr1_ hb1_ hg1_ ha1_
    rw [List.nil_append] at hr1_
    have HSq := Aside0.mk ((HSp.out).newRow hb1_ hr1_)
    obtain ⟨Br, dr, rfl⟩ := Kd.R_slice hr1_
    clear hr1_ hb1_ hg1_ ha1_
    refine hK.out _ _ (HSq.out.boxed 3 rfl) (fun hHeld => ?_)
    clear hK K
    refine norm_ (a' := ?_) ?_ ?_
    rotate_left
    · show Act.put _ (some 25) _ = _
      simp only [Act.put, List.setIfInBounds_toArray, List.set_cons_zero, List.set_cons_succ, i64_w, i32_w]
      rfl
    refine pure_ (i := 6) (N := some 26) (v := ?_) (a' := ?_) #[true, true, true, true, true, true, true, true, false] rfl rfl (by kernel_rfl) (fun _ _ _ h => h) (Or.inl ⟨by rfl, ?_⟩) ?_ ?_
    rotate_left
    · intro w'
      go_simp
      with_reducible rfl
    rotate_left
    · simp only [Act.put, List.setIfInBounds_toArray, List.set_cons_zero, List.set_cons_succ, i64_w, i32_w]
      rfl
    exact norm_ (by simp only [putAll, Act.put, List.setIfInBounds_toArray, List.set_cons_zero, List.set_cons_succ]) (hCont (Br, dr, gt) _ HSq.out.swap)
  rintro ⟨Br, dr, gt⟩ wc hs
  have HSc := Aside0.mk hs
  have hHeld := HSc.out.boxed 3 rfl
  clear HSa hs
  refine norm_ (a' := ?_) ?_ ?_
  rotate_left
  · simp only [putAll, Act.put, List.setIfInBounds_toArray, List.set_cons_zero, List.set_cons_succ]
    rfl
  refine last_ (i := 8) (N := none) #[true, true, true, true, true, true, true, true, true] rfl rfl (by kernel_rfl) (by decide) (fun K hK => ?_)
  have c0_ := (HSc.out.boxed 0 rfl).cell 0 _ rfl
  have f0_ := (HSc.out.boxed 0 rfl).free 0
  have c1_ := (HSc.out.boxed 0 rfl).cell 1 _ rfl
  have f1_ := (HSc.out.boxed 0 rfl).free 1
  have c2_ := (HSc.out.boxed 0 rfl).cell 2 _ rfl
  have f2_ := (HSc.out.boxed 0 rfl).free 2
  refine skip_ (w1 := ?_) (by rfl) rfl ?_ ?_
  rotate_left
  · go_simp
    rfl
  have HSd := Aside0.mk (((HSc.out.set 0 (.int .u64 sq)).set 1 (.slice none 0 0)).set 2 (.slice Br rs.length dr))
  clear c0_ f0_ c1_ f1_ c2_ f2_ HSc hHeld
  refine hK.out _ _ ?_
  clear hK K
  refine done_ (by kernel_rfl) ?_
  have HFB : Aside0 (Pure.fairB n ls ws rs = (ws.all (fun x => Pure.outB n ls.st ls.len x.f0) && rs.all (Pure.outB n ls.st ls.len))) := ⟨rfl⟩
  have HLB : Aside0 (1 ≤ ls.len ∧ ls.len ≤ 1024 ∧ ls.st ≤ 1024) := ⟨by have := HOK.out.l0; have := HOK.out.l1; have := HOK.out.fit; have := HOK.out.n1; omega⟩
  have HW := Aside0.mk (((HSd.out.wnone).perm [1, 0, 2, 3, 4, 5] 6 (by decide) (by decide)))
  clear HSd
  go_wp2_with fail
  go_loopg [10, 29] ws.length (fun gk v10_ v29_ w' => ∃ (i : Nat) (l : List (Int × Value × List Int)) (Aw : Option Addr) (cw : Nat), v29_ = .int .i64 (i : Int) ∧ Aside0 (gk + i = ws.length) ∧ Aside0 ((ws.take i).all (fun x => Pure.outB n ls.st ls.len x.f0) = true) ∧ Aside0 (l.length = i ∧ Pure.prs (ws.take i) = l.map fun x => (x.1, x.2.2)) ∧
    Aside0 (X.Lies w0 w' (.box gt #[.int .u64 sq, .slice Aw i cw, .slice Br rs.length dr] 60 :: .wown (.slice Aw i cw) l :: .row (Kd.int .i64) 3 (.slice Br rs.length dr) rs :: .disk p n d :: .box g (Pure.logC p ls (.slice Al ls.live.length cl)) 93 :: .rows k60 60 (.slice Al ls.live.length cl) ls.live :: L)))
  case atStart => exact ⟨0, [], none, 0, rfl, ⟨by omega⟩, ⟨rfl⟩, ⟨rfl, rfl⟩, HW⟩
  case round =>
    clear HW
    obtain ⟨i, l, Aw, cw, rfl, HK, HF, HL, HS⟩ := hrel
    by_cases hlt : i < ws.length
    · have q0 : decide ((i : Int) < (ws.length : Int)) = true := decide_eq_true (by omega)
      have q00 : decide (i < ws.length) = true := decide_eq_true hlt
      obtain ⟨x, hx⟩ : ∃ x, ws[i]? = some x := ⟨_, List.getElem?_eq_getElem hlt⟩
      obtain ⟨ga, oa, Ax, cx, rfl, hrg, hcx, hCx⟩ := Pure.wr_at (HR1.out _ HS.out.tail.tail.tail.tail.tail.tail) hx
      have HX := Aside0.mk hx
      have HLT := Aside0.mk hlt
      have HRG := Aside0.mk hrg
      have HCX := Aside0.mk hcx
      have HCC : Aside0 ((Kd.int .u8).C wr Ax x.f1.length x.f1) := ⟨hCx⟩
      clear hx hrg hcx hCx
      go_wp2_with ((with_reducible refine gate_ (.load 66 (.tmp 31)) rfl ?_); (refine wpList_load_mid rfl 66 (.tmp 31) rfl ga (oa + i * 2) rfl [.int .i64 x.f0, .slice Ax x.f1.length cx] _ HRG.out Try.underlying66 rfl Pure.infoW ?_))
      clear hlt
      have HS1 := Aside0.mk ((HS.out.alloc #[.int .i64 x.f0, .slice Ax x.f1.length cx] 66).perm [4, 5, 0, 1, 2, 3, 6] 7 (by decide) (by decide))
      clear HS HRG
      obtain ⟨gw, hgw⟩ : ∃ gw, gw = wr.heap.size := ⟨_, rfl⟩
      rw [← hgw] at HS1 ⊢
      have HCD : Aside0 ((Kd.int .u8).C (wr.alloc (.cells #[.int .i64 x.f0, .slice Ax x.f1.length cx] 66)) Ax x.f1.length x.f1) := ⟨Kd.C_alloc HCC.out _⟩
      clear hgw HCC
      refine (log_outside.part w0 _ _ g p n d ls _ x.f0 HS1.out HLB.out).mono ?_
      rintro e w5 ⟨rfl, hs, hbl⟩
      have HCE := Aside0.mk (Kd.C_below HCD.out hbl)
      clear hbl HCD
      by_cases hob : Pure.outB n ls.st ls.len x.f0 = true
      rotate_left
      · rw [show Pure.outB n ls.st ls.len x.f0 = false from by simpa using hob]
        have HE : Aside0 (Pure.appE n ls ws rs = 17) := ⟨by
          refine if_neg (fun h => hob ?_)
          rw [Bool.and_eq_true, HFB.out, Bool.and_eq_true, List.all_eq_true] at h
          exact h.1.1 x (List.mem_of_getElem? HX.out)⟩
        have HQ : Aside0 (X.Lies w0 w5 (.box g (Pure.logC p ls (.slice Al ls.live.length cl)) 93 :: .rows k60 60 (.slice Al ls.live.length cl) ls.live :: .disk p n d :: L)) := ⟨hs.perm [1, 6, 0] 7 (by decide) (by decide)⟩
        clear hs hob HS1
        go_wp2_with fail
        go_ret2
        rw [show Pure.appQ n ls ws rs = 0 from if_neg (by rw [HE.out]; decide), HE.out, show Pure.appD n d ls ws rs = d from if_neg (by rw [HE.out]; decide), show Pure.appS n ls ws rs = ls from if_neg (by rw [HE.out]; decide)]
        exact ⟨rfl, (Pure.logP_close HQ.out).swap⟩
      rw [hob]
      have HS5 := Aside0.mk hs
      have HOB := Aside0.mk hob
      clear hs hob HS1
      go_wp2_with fail
      refine start_ (n := 12) (S := (fun w' => X.Blk w' gt #[.int .u64 sq, .slice Aw i cw, .slice Br rs.length dr] 60 ∧ X.Blk w' gw #[.int .i64 x.f0, .slice Ax x.f1.length cx] 66)) (ds := [11]) #[false, false, false, false, false, false, false, false, false, false, false, false] (by kernel_rfl) rfl rfl ⟨HS5.out.drew.boxed 3 rfl, HS5.out.drew.boxed 2 rfl⟩ (fun hHeld => ?_)
      have HSa := Aside0.mk (HS5.out.drew)
      have HCa := Aside0.mk (Kd.C_below HCE.out (below_drew1 (Below.refl _ _)))
      generalize World.drew _ = wa at *
      clear HS5 HCE
      refine pure_ (i := 0) (N := some 38) (v := ?_) (a' := ?_) #[true, false, false, false, false, false, false, false, false, false, false, false] rfl rfl (by kernel_rfl) (fun _ _ _ h => h) (Or.inl ⟨by rfl, ?_⟩) ?_ ?_
      rotate_left
      · intro w'
        go_simp
        with_reducible rfl
      rotate_left
      · simp only [Act.put, List.setIfInBounds_toArray, List.set_cons_zero, List.set_cons_succ, i64_w, i32_w]
        rfl
      refine take_ (i := 1) (N := some 39) (v := .slice Aw i cw) (a' := ?_) #[true, true, false, false, false, false, false, false, false, false, false, false] rfl rfl (by kernel_rfl) (fun _ _ _ h => h) (Or.inl ⟨by rfl, ?_⟩) hHeld ?_ ?_
      · intro w' hs_
        obtain ⟨hs0, hs1⟩ := hs_
        exact (by have x_ : w'.cell? ⟨gt, 1, none⟩ = some (.slice Aw i cw) := hs0.cell 1 _ rfl; go_simp; done)
      rotate_left
      · simp only [Act.put, List.setIfInBounds_toArray, List.set_cons_zero, List.set_cons_succ, i64_w, i32_w]
        rfl
      refine pure_ (i := 2) (N := some 40) (v := ?_) (a' := ?_) #[true, true, true, false, false, false, false, false, false, false, false, false] rfl rfl (by kernel_rfl) (fun _ _ _ h => h) (Or.inl ⟨by rfl, ?_⟩) ?_ ?_
      rotate_left
      · intro w'
        go_simp
        with_reducible rfl
      rotate_left
      · simp only [Act.put, List.setIfInBounds_toArray, List.set_cons_zero, List.set_cons_succ, i64_w, i32_w]
        rfl
      refine take_ (i := 3) (N := some 41) (v := .int .i64 x.f0) (a' := ?_) #[true, true, true, true, false, false, false, false, false, false, false, false] rfl rfl (by kernel_rfl) (fun _ _ _ h => h) (Or.inl ⟨by rfl, ?_⟩) hHeld ?_ ?_
      · intro w' hs_
        obtain ⟨hs0, hs1⟩ := hs_
        exact (by have x_ : w'.cell? ⟨gw, 0, none⟩ = some (.int .i64 x.f0) := hs1.cell 0 _ rfl; go_simp; done)
      rotate_left
      · simp only [Act.put, List.setIfInBounds_toArray, List.set_cons_zero, List.set_cons_succ, i64_w, i32_w]
        rfl
      refine pure_ (i := 4) (N := some 42) (v := ?_) (a' := ?_) #[true, true, true, true, true, false, false, false, false, false, false, false] rfl rfl (by kernel_rfl) (fun _ _ _ h => h) (Or.inl ⟨by rfl, ?_⟩) ?_ ?_
      rotate_left
      · intro w'
        go_simp
        with_reducible rfl
      rotate_left
      · simp only [Act.put, List.setIfInBounds_toArray, List.set_cons_zero, List.set_cons_succ, i64_w, i32_w]
        rfl
      refine take_ (i := 5) (N := some 43) (v := .slice Ax x.f1.length cx) (a' := ?_) #[true, true, true, true, true, true, false, false, false, false, false, false] rfl rfl (by kernel_rfl) (fun _ _ _ h => h) (Or.inl ⟨by rfl, ?_⟩) hHeld ?_ ?_
      · intro w' hs_
        obtain ⟨hs0, hs1⟩ := hs_
        exact (by have x_ : w'.cell? ⟨gw, 1, none⟩ = some (.slice Ax x.f1.length cx) := hs1.cell 1 _ rfl; go_simp; done)
      rotate_left
      · simp only [Act.put, List.setIfInBounds_toArray, List.set_cons_zero, List.set_cons_succ, i64_w, i32_w]
        rfl
      refine one_ (i := 6) (N := some 44) #[true, true, true, true, true, true, true, false, false, false, false, false] rfl rfl (by kernel_rfl) (by decide) (fun K hK => ?_)
      refine goes_ Try.func50 (by kernel_rfl) rfl #[.slice Ax x.f1.length cx] (by rfl) rfl rfl (by (try simp only [List.map_toArray, List.map_cons, List.map_nil]); first | done | rfl) ?_
      refine (clone_part w0 wa _ Ax cx x.f1 HSa.out HCa.out HCX.out (HCM.out.ld x (List.mem_of_getElem? HX.out))).mono ?_
      rintro e wb ⟨Bd, dd, rfl, hs⟩
      have HSb := Aside0.mk hs
      refine ⟨_, rfl, ?_⟩
      clear hs HSa HCa hHeld
      refine hK.out _ _ ⟨HSb.out.boxed 4 rfl, HSb.out.boxed 3 rfl⟩ (fun hHeld => ?_)
      clear hK K
      refine norm_ (a' := ?_) ?_ ?_
      rotate_left
      · show Act.put _ (some 44) _ = _
        simp only [Act.put, List.setIfInBounds_toArray, List.set_cons_zero, List.set_cons_succ, i64_w, i32_w]
        rfl
      refine pure_ (i := 7) (N := some 45) (v := ?_) (a' := ?_) #[true, true, true, true, true, true, true, true, false, false, false, false] rfl rfl (by kernel_rfl) (fun _ _ _ h => h) (Or.inl ⟨by rfl, ?_⟩) ?_ ?_
      rotate_left
      · intro w'
        go_simp
        with_reducible rfl
      rotate_left
      · simp only [Act.put, List.setIfInBounds_toArray, List.set_cons_zero, List.set_cons_succ, i64_w, i32_w]
        rfl
      refine one_ (i := 8) (N := some 46) #[true, true, true, true, true, true, true, true, true, false, false, false] rfl rfl (by kernel_rfl) (by decide) (fun K hK => ?_)
      refine X.val_ (by rfl) rfl (X.slice_exec (.tmp 45) (by rfl) _ _ (by rfl) (Pure.sliceW wb [.int .i64 x.f0, .slice Bd x.f1.length dd] rfl)) ?_
      have HSc := Aside0.mk (HSb.out.alloc #[.int .i64 x.f0, .slice Bd x.f1.length dd] 66)
      obtain ⟨gv, hgv⟩ : ∃ gv, gv = wb.heap.size := ⟨_, rfl⟩
      rw [← hgv] at HSc ⊢
      generalize wb.alloc _ = wc at *
      clear HSb hgv hHeld
      refine hK.out _ _ ⟨HSc.out.boxed 5 rfl, HSc.out.boxed 4 rfl⟩ (fun hHeld => ?_)
      clear hK K
      refine norm_ (a' := ?_) ?_ ?_
      rotate_left
      · show Act.put _ (some 46) _ = _
        simp only [Act.put, List.setIfInBounds_toArray, List.set_cons_zero, List.set_cons_succ, i64_w, i32_w]
        rfl
      have HXC := Aside0.mk (X.C_raw_one (HSc.out.boxed 0 rfl) rfl (by intro v hv; rcases List.mem_cons.1 hv with rfl | hv; rfl; rcases List.mem_cons.1 hv with rfl | hv; rfl; cases hv))
      obtain ⟨ok, hR, hfr, hadd⟩ := (HSc.out.perm [6, 1, 2, 3, 4, 5, 7, 8] 9 (by decide) (by decide)).wsnoc (b := x.f0)
      refine one_ (i := 9) (N := some 47) #[true, true, true, true, true, true, true, true, true, true, false, false] rfl rfl (by kernel_rfl) (by decide) (fun K hK => ?_)
      refine Kd.R_append_rows_step (Kd.raw 2) (w0 := wc) 0 (by rfl) (.tmp 39) (.tmp 46) 57 66 (.agg #[.int .i64 0, .slice none 0 0]) 32 rfl Try.underlying57 Pure.infoW3 rfl (by decide) (by decide) _ (l.map fun x => [.int .i64 x.1, x.2.1]) [[.int .i64 x.f0, .slice Bd x.f1.length dd]] _ _ _ ok (fun _ => False) (by rfl) (by rfl) hR HXC.out (fun _ _ h => h) (fun _ h => h.elim) hfr (Below.refl 0 wc) (Nat.zero_le _) (by rw [List.length_map, HL.out.1]; have := HCM.out.lw; have := HLT.out; omega) ?_
      intro v6 w6 hr6 hb6 hg6 ha6
      have HSd := Aside0.mk (hadd hr6 hg6)
      obtain ⟨A6, c6, e6⟩ := Kd.R_slice hr6
      rw [List.length_append, List.length_map, HL.out.1] at e6
      rw [show i + [[Value.int .i64 x.f0, Value.slice Bd x.f1.length dd]].length = i + 1 from rfl] at e6
      subst e6
      clear hr6 hb6 hg6 ha6 hadd hR hfr HXC HSc hHeld
      refine hK.out _ _ ⟨HSd.out.boxed 4 rfl, HSd.out.boxed 3 rfl⟩ (fun hHeld => ?_)
      clear hK K
      refine norm_ (a' := ?_) ?_ ?_
      rotate_left
      · show Act.put _ (some 47) _ = _
        simp only [Act.put, List.setIfInBounds_toArray, List.set_cons_zero, List.set_cons_succ, i64_w, i32_w]
        rfl
      refine pure_ (i := 10) (N := some 48) (v := ?_) (a' := ?_) #[true, true, true, true, true, true, true, true, true, true, true, false] rfl rfl (by kernel_rfl) (fun _ _ _ h => h) (Or.inl ⟨by rfl, ?_⟩) ?_ ?_
      rotate_left
      · intro w'
        go_simp
        with_reducible rfl
      rotate_left
      · simp only [Act.put, List.setIfInBounds_toArray, List.set_cons_zero, List.set_cons_succ, i64_w, i32_w]
        rfl
      refine last_ (i := 11) (N := none) #[true, true, true, true, true, true, true, true, true, true, true, true] rfl rfl (by kernel_rfl) (by decide) (fun K hK => ?_)
      have c1_ : w6.cell? ⟨gt, 1, none⟩ = some (.slice Aw i cw) := (HSd.out.boxed 4 rfl).cell 1 _ rfl
      have f1_ := (HSd.out.boxed 4 rfl).free 1
      refine skip_ (w1 := ?_) (by rfl) rfl ?_ ?_
      rotate_left
      · go_simp
        rfl
      have HSe := Aside0.mk (((HSd.out.perm [4, 0, 5, 1, 2, 6] 7 (by decide) (by decide))).set 1 (.slice A6 (i + 1) c6))
      clear c1_ f1_ HSd hHeld
      refine hK.out _ _ ?_
      clear hK K
      refine done_ (by kernel_rfl) ?_
      have ht1 : ws.take (i + 1) = ws.take i ++ [x] := by rw [List.take_add_one, HX.out]; rfl
      have HF1 : Aside0 ((ws.take (i + 1)).all (fun x => Pure.outB n ls.st ls.len x.f0) = true) := ⟨by rw [ht1, List.all_append, HF.out]; simp only [List.all_cons, List.all_nil, HOB.out, Bool.and_self]⟩
      have HL1 : Aside0 ((l ++ [(x.f0, Value.slice Bd x.f1.length dd, x.f1)]).length = i + 1 ∧ Pure.prs (ws.take (i + 1)) = (l ++ [(x.f0, Value.slice Bd x.f1.length dd, x.f1)]).map fun x : Int × Value × List Int => (x.1, x.2.2)) := ⟨by
        refine ⟨by rw [List.length_append, HL.out.1]; rfl, ?_⟩
        rw [ht1, List.map_append, ← HL.out.2]
        unfold Pure.prs
        rw [List.map_append]
        rfl⟩
      clear ht1
      go_wp2_with fail
      cases gk with
      | zero => exact absurd HK.out (by have := HLT.out; omega)
      | succ k1 =>
        go_roundg k1
        case measure => omega
        case rel => exact ⟨i + 1, _, A6, c6, by have := HLT.out; have := HCM.out.lw; rw [show wrap64 ((i : Int) + 1) = ((i + 1 : Nat) : Int) from by unfold wrap64; omega], ⟨by have := HK.out; omega⟩, HF1, HL1, HSe⟩
    · have q0 : decide ((i : Int) < (ws.length : Int)) = false := decide_eq_false (by omega)
      have q00 : decide (i < ws.length) = false := decide_eq_false hlt
      obtain rfl : i = ws.length := by have := HK.out; omega
      have hff := HF.out
      have hll := HL.out.2
      rw [List.take_length] at hff hll
      have HFW := Aside0.mk hff
      have HLL2 := Aside0.mk hll
      clear HK hlt HF hff hll HL
      go_wp2_with fail
      go_loopg [12, 52] rs.length (fun gk v12_ v52_ w' => ∃ (i : Nat), v52_ = .int .i64 (i : Int) ∧ Aside0 (gk + i = rs.length) ∧ Aside0 ((rs.take i).all (Pure.outB n ls.st ls.len) = true) ∧ Aside0 (X.Lies w0 w' (.box gt #[.int .u64 sq, .slice Aw ws.length cw, .slice Br rs.length dr] 60 :: .wown (.slice Aw ws.length cw) l :: .row (Kd.int .i64) 3 (.slice Br rs.length dr) rs :: .disk p n d :: .box g (Pure.logC p ls (.slice Al ls.live.length cl)) 93 :: .rows k60 60 (.slice Al ls.live.length cl) ls.live :: L)))
      case atStart => exact ⟨0, rfl, ⟨by omega⟩, ⟨rfl⟩, HS⟩
      case round =>
        clear HS q0 q00
        obtain ⟨i, rfl, HK, HF, HS⟩ := hrel
        by_cases hlt : i < rs.length
        · have q0 : decide ((i : Int) < (rs.length : Int)) = true := decide_eq_true (by omega)
          have q00 : decide (i < rs.length) = true := decide_eq_true hlt
          obtain ⟨b, hb⟩ : ∃ b, rs[i]? = some b := ⟨_, List.getElem?_eq_getElem hlt⟩
          obtain ⟨ga, oa, rfl, hca⟩ := Pure.int_at (HR2.out _ HS.out.tail.tail.tail.tail.tail.tail) hb
          have HB := Aside0.mk hb
          have HLT := Aside0.mk hlt
          clear hb
          go_wp2_with fail
          clear hlt hca
          refine (log_outside.part w0 wr _ g p n d ls _ b (HS.out.perm [3, 4, 0, 1, 2, 5] 6 (by decide) (by decide)) HLB.out).mono ?_
          rintro e w5 ⟨rfl, hs, -⟩
          by_cases hob : Pure.outB n ls.st ls.len b = true
          rotate_left
          · rw [show Pure.outB n ls.st ls.len b = false from by simpa using hob]
            have HE : Aside0 (Pure.appE n ls ws rs = 17) := ⟨by
              refine if_neg (fun h => hob ?_)
              rw [Bool.and_eq_true, HFB.out, Bool.and_eq_true, List.all_eq_true, List.all_eq_true] at h
              exact h.1.2 b (List.mem_of_getElem? HB.out)⟩
            have HQ : Aside0 (X.Lies w0 w5 (.box g (Pure.logC p ls (.slice Al ls.live.length cl)) 93 :: .rows k60 60 (.slice Al ls.live.length cl) ls.live :: .disk p n d :: L)) := ⟨hs.perm [1, 5, 0] 6 (by decide) (by decide)⟩
            clear hs hob HS
            go_wp2_with fail
            go_ret2
            rw [show Pure.appQ n ls ws rs = 0 from if_neg (by rw [HE.out]; decide), HE.out, show Pure.appD n d ls ws rs = d from if_neg (by rw [HE.out]; decide), show Pure.appS n ls ws rs = ls from if_neg (by rw [HE.out]; decide)]
            exact ⟨rfl, (Pure.logP_close HQ.out).swap⟩
          rw [hob]
          have HF1 : Aside0 ((rs.take (i + 1)).all (Pure.outB n ls.st ls.len) = true) := ⟨by rw [List.take_add_one, HB.out, Option.toList_some, List.all_append, HF.out]; simp only [List.all_cons, List.all_nil, hob, Bool.and_self]⟩
          have HS5 := Aside0.mk (hs.perm [2, 3, 4, 0, 1, 5] 6 (by decide) (by decide))
          clear hs hob HS
          go_wp2_with fail
          cases gk with
          | zero => exact absurd HK.out (by have := HLT.out; omega)
          | succ k1 =>
            go_roundg k1
            case measure => omega
            case rel => exact ⟨i + 1, by have := HLT.out; have := HCM.out.lr; rw [show wrap64 ((i : Int) + 1) = ((i + 1 : Nat) : Int) from by unfold wrap64; omega], ⟨by have := HK.out; omega⟩, HF1, HS5⟩
        · have q0 : decide ((i : Int) < (rs.length : Int)) = false := decide_eq_false (by omega)
          have q00 : decide (i < rs.length) = false := decide_eq_false hlt
          obtain rfl : i = rs.length := by have := HK.out; omega
          have hff := HF.out
          rw [List.take_length] at hff
          have HFA : Aside0 (Pure.fairB n ls ws rs = true) := ⟨by rw [HFB.out, HFW.out, hff]; rfl⟩
          clear HK hlt HF hff HFW HFB
          have x0_ := (HS.out.boxed 0 rfl).cell 0 _ rfl
          have x1_ : wr.cell? ⟨gt, 1, none⟩ = some (.slice Aw ws.length cw) := (HS.out.boxed 0 rfl).cell 1 _ rfl
          have x2_ : wr.cell? ⟨gt, 2, none⟩ = some (.slice Br rs.length dr) := (HS.out.boxed 0 rfl).cell 2 _ rfl
          have x0_ : wr.cell? ⟨gt, 0, none⟩ = some (.int .u64 sq) := (HS.out.boxed 0 rfl).cell 0 _ rfl
          have HSX := HS
          go_wp2_with fail
          obtain ⟨-, hcw, hCw, -⟩ := Pure.wown_S HSX.out 1 rfl HLL2.out
          have hCr := HSX.out.rowC 2 rfl
          have hcm2 : Pure.Came sq ws rs := by rw [HSQ.out]; exact HCM.out
          refine (Pure.Encode_part w0 wr _ sq Aw cw ws Br dr rs HSX.out hCw hcw hCr.1 hCr.2.1 hcm2).mono ?_
          rintro e w4 ⟨B, dB, rfl, hs⟩
          have HC3 := Aside0.mk hcm2
          clear hcw hCw hCr hcm2 x0_ x1_ x2_ HSX HS
          by_cases hm : mayB ws rs = true
          rotate_left
          · rw [show Pure.encE ws rs = 17 from if_neg hm]
            have HE : Aside0 (Pure.appE n ls ws rs = 17) := ⟨if_neg (fun h => hm (by rw [Bool.and_eq_true] at h; exact h.2))⟩
            have HQ : Aside0 (X.Lies w0 w4 (.box g (Pure.logC p ls (.slice Al ls.live.length cl)) 93 :: .rows k60 60 (.slice Al ls.live.length cl) ls.live :: .disk p n d :: L)) := ⟨hs.perm [5, 6, 4] 7 (by decide) (by decide)⟩
            clear hs hm
            go_wp2_with fail
            go_ret2
            rw [show Pure.appQ n ls ws rs = 0 from if_neg (by rw [HE.out]; decide), HE.out, show Pure.appD n d ls ws rs = d from if_neg (by rw [HE.out]; decide), show Pure.appS n ls ws rs = ls from if_neg (by rw [HE.out]; decide)]
            exact ⟨rfl, (Pure.logP_close HQ.out).swap⟩
          rw [show Pure.encE ws rs = 0 from if_pos hm]
          rw [show Pure.encR sq ws rs = encL sq ws rs from if_pos hm] at hs ⊢
          have HLE := Aside0.mk (Pure.encL_length (seq := sq) hm)
          have HMF := Aside0.mk (Pure.may_facts hm).1
          have HUX := Aside0.mk (Pure.encL_u8 (seq := sq) (rs := rs) HC3.out.data)
          have HAE : Aside0 (Pure.appE n ls ws rs = if ws.length + 2 + ls.used ≤ ls.len - 1 then 0 else 9) := ⟨if_pos (by rw [HFA.out, hm]; rfl)⟩
          have HXE : Aside0 (encL sq ws rs = encL ls.seq ws rs) := ⟨by rw [HSQ.out]⟩
          obtain ⟨xs, hxs⟩ : ∃ xs, xs = encL sq ws rs := ⟨_, rfl⟩
          rw [← hxs] at hs HLE HUX HXE ⊢
          have hdv : ((xs.length : Int)).tdiv 256 = ((ws.length + 2 : Nat) : Int) := by rw [HLE.out, Int.tdiv_eq_ediv_of_nonneg (by omega)]; omega
          obtain ⟨N, hN⟩ : ∃ N : Nat, N = ws.length + 2 := ⟨_, rfl⟩
          have HN := Aside0.mk hN
          rw [← hN] at hdv
          have hwN : wrap64 (N : Int) = (N : Int) := by have := HMF.out; unfold wrap64; omega
          obtain ⟨O, hO⟩ := hs.rowed 0 rfl
          obtain ⟨gb, dB', e1, -⟩ := Kd.R_form hO (by rw [HLE.out]; omega)
          obtain ⟨rfl, -, rfl⟩ := Value.slice.inj e1
          have HS4 := Aside0.mk hs
          clear hs hO e1 hN hxs hm
          go_wp2_with fail
          refine (log_Room.part w0 w4 _ g p ls _ (HS4.out.perm [5, 0, 1, 2, 3, 4, 6] 7 (by decide) (by decide)) HOK.out.l1 HOK.out.us).mono ?_
          rintro e w5 ⟨rfl, hs⟩
          obtain ⟨R, hR⟩ : ∃ R : Nat, R = ls.len - 1 - ls.used := ⟨_, rfl⟩
          rw [← hR]
          by_cases hroom : N ≤ R
          rotate_left
          · have q1 : decide ((N : Int) > (R : Int)) = true := decide_eq_true (by omega)
            have q2 : decide ((R : Int) < (N : Int)) = true := decide_eq_true (by omega)
            have q3 : decide (R < N) = true := decide_eq_true (by omega)
            have HE : Aside0 (Pure.appE n ls ws rs = 9) := ⟨by rw [HAE.out, if_neg (by have := HN.out; have := HOK.out.us; omega)]⟩
            have HQ : Aside0 (X.Lies w0 w5 (.box g (Pure.logC p ls (.slice Al ls.live.length cl)) 93 :: .rows k60 60 (.slice Al ls.live.length cl) ls.live :: .disk p n d :: L)) := ⟨hs.perm [0, 6, 5] 7 (by decide) (by decide)⟩
            clear hs hroom HS4 hR
            go_wp2_with fail
            go_ret2
            rw [show Pure.appQ n ls ws rs = 0 from if_neg (by rw [HE.out]; decide), HE.out, show Pure.appD n d ls ws rs = d from if_neg (by rw [HE.out]; decide), show Pure.appS n ls ws rs = ls from if_neg (by rw [HE.out]; decide)]
            exact ⟨rfl, (Pure.logP_close HQ.out).swap⟩
          have q1 : decide ((N : Int) > (R : Int)) = false := decide_eq_false (by omega)
          have q2 : decide ((R : Int) < (N : Int)) = false := decide_eq_false (by omega)
          have q3 : decide (R < N) = false := decide_eq_false (by omega)
          have HE : Aside0 (Pure.appE n ls ws rs = 0) := ⟨by rw [HAE.out, if_pos (by have := HN.out; have := HOK.out.us; omega)]⟩
          have HRM : Aside0 (N + ls.used ≤ ls.len - 1) := ⟨by have := HN.out; have := HOK.out.us; omega⟩
          have HS5 := Aside0.mk (hs.perm [5, 0, 1, 2, 3, 4, 6] 7 (by decide) (by decide))
          clear hs hroom HS4 hR
          go_wp2_with fail
          go_loopg [16, 17, 77] N (fun gk v16_ v17_ v77_ w' => ∃ (i pl : Nat), v77_ = .int .i64 (i : Int) ∧ Aside0 (gk + i = N) ∧ Aside0 (pl = (ls.pl + i) % (ls.len - 1)) ∧
            Aside0 (X.Lies w0 w' (.disk p n (Pure.ringW d ls xs i) :: .box g (Pure.logC p (⟨ls.st, ls.len, ls.seq, pl, ls.live⟩ : Pure.LS) (.slice Al ls.live.length cl)) 93 :: (.row (Kd.int .u8) 5 (.slice (some ⟨gb, 0, none⟩) xs.length dB) xs :: .box gt #[.int .u64 sq, .slice Aw ws.length cw, .slice Br rs.length dr] 60 :: .wown (.slice Aw ws.length cw) l :: .row (Kd.int .i64) 3 (.slice Br rs.length dr) rs :: .rows k60 60 (.slice Al ls.live.length cl) ls.live :: L))))
          case atStart => exact ⟨0, ls.pl, rfl, ⟨by omega⟩, ⟨by rw [Nat.add_zero, Nat.mod_eq_of_lt HOK.out.pl]⟩, HS5⟩
          case round =>
            clear HS5
            obtain ⟨i, pl, rfl, HK, HP, HS⟩ := hrel
            by_cases hlt : i < N
            · have q0 : decide ((i : Int) < (N : Int)) = true := decide_eq_true (by omega)
              have q00 : decide (i < N) = true := decide_eq_true hlt
              have HLB2 : Aside0 (8 ≤ ls.len ∧ ls.len ≤ 1024 ∧ ls.st + ls.len ≤ n ∧ n ≤ 1024 ∧ pl < ls.len - 1 ∧ i < N ∧ N ≤ 60) := ⟨by have := HOK.out.l0; have := HOK.out.l1; have := HOK.out.fit; have := HOK.out.n1; have := HP.out; have := Nat.mod_lt (ls.pl + i) (show 0 < ls.len - 1 by omega); have := HN.out; have := HMF.out; omega⟩
              obtain ⟨at_, hat⟩ : ∃ at_ : Nat, at_ = ls.st + 1 + pl := ⟨_, rfl⟩
              obtain ⟨lo, hlo⟩ : ∃ lo : Nat, lo = 256 * i := ⟨_, rfl⟩
              obtain ⟨hi, hhi⟩ : ∃ hi : Nat, hi = lo + 256 := ⟨_, rfl⟩
              have HW1A : Aside0 (wrap64 ((ls.st : Int) + 1) = (ls.st : Int) + 1) := ⟨(Pure.wrap64_id (by have := HLB2.out; omega) (by have := HLB2.out; omega)).trans (by have := HLB2.out; omega)⟩
              have HW1 : Aside0 (wrap64 ((ls.st : Int) + 1 + (pl : Int)) = (at_ : Int)) := ⟨(Pure.wrap64_id (by have := HLB2.out; omega) (by have := HLB2.out; omega)).trans (by have := HLB2.out; omega)⟩
              have HW2 : Aside0 (wrap64 ((i : Int) * 256) = (lo : Int)) := ⟨Pure.mulw i lo hlo (by have := HLB2.out; omega)⟩
              have HW3A : Aside0 (wrap64 ((i : Int) + 1) = (i : Int) + 1) := ⟨Pure.sucw i (by have := HLB2.out; omega)⟩
              have HW3 : Aside0 (wrap64 (((i : Int) + 1) * 256) = (hi : Int)) := ⟨Pure.mulw1 i hi (by rw [hhi, hlo]) (by have := HLB2.out; omega)⟩
              have hN2 : xs.length = N * 256 := by rw [HLE.out, HN.out]
              have HIN : Aside0 (at_ < n ∧ hi ≤ xs.length ∧ lo < xs.length) := ⟨by have := HLB2.out; omega⟩
              have HCU : Aside0 (∀ w', (Instr.slice 22 (.slice (some ⟨gb, 0, none⟩) xs.length dB) (some (.int .i64 (lo : Int))) (some (.int .i64 (hi : Int))) none).run Try.prog w' = .ok (.slice (some ⟨gb, lo, none⟩) 256 (dB - lo)) w') := ⟨fun w' => Pure.sub_run w' gb xs.length dB lo hi 256 .i64 .i64 (by omega) HIN.out.2.1 (HS.out.rowC 2 rfl).2.1 HIN.out.2.2⟩
              have HSL : Aside0 (hi ≤ dB ∧ lo ≤ hi ∧ ¬ dB = lo ∧ hi - lo = 256) := ⟨by have := (HS.out.rowC 2 rfl).2.1; have := HIN.out; omega⟩
              have hbk : (xs.take (lo + 256)).drop lo = X.blk xs i := by unfold X.blk; rw [hlo]
              have hbl : (X.blk xs i).length = 256 := by rw [← hbk, List.length_drop, List.length_take]; have := HIN.out; omega
              have HWR : Aside0 (∀ wa, X.Lies w0 wa (.disk p n (Pure.ringW d ls xs i) :: .box g (Pure.logC p (⟨ls.st, ls.len, ls.seq, pl, ls.live⟩ : Pure.LS) (.slice Al ls.live.length cl)) 93 :: (.row (Kd.int .u8) 5 (.slice (some ⟨gb, 0, none⟩) xs.length dB) xs :: .box gt #[.int .u64 sq, .slice Aw ws.length cw, .slice Br rs.length dr] 60 :: .wown (.slice Aw ws.length cw) l :: .row (Kd.int .i64) 3 (.slice Br rs.length dr) rs :: .rows k60 60 (.slice Al ls.live.length cl) ls.live :: L)) →
                  Calls Try.prog 13 #[.pointer (some ⟨p, 0, none⟩), .int .i64 (at_ : Int), .slice (some ⟨gb, lo, none⟩) 256 (dB - lo)] wa fun e w' => e = .returned (.int .i64 0) ∧ X.Lies w0 w' (.disk p n (Pure.ringW d ls xs (i + 1)) :: .box g (Pure.logC p (⟨ls.st, ls.len, ls.seq, pl, ls.live⟩ : Pure.LS) (.slice Al ls.live.length cl)) 93 :: (.row (Kd.int .u8) 5 (.slice (some ⟨gb, 0, none⟩) xs.length dB) xs :: .box gt #[.int .u64 sq, .slice Aw ws.length cw, .slice Br rs.length dr] 60 :: .wown (.slice Aw ws.length cw) l :: .row (Kd.int .i64) 3 (.slice Br rs.length dr) rs :: .rows k60 60 (.slice Al ls.live.length cl) ls.live :: L))) := ⟨fun wa hL => by
                have hd := (HS.out.rowC 2 rfl).2.1
                have h2 := disk_Write.part w0 wa _ p n (Pure.ringW d ls xs i) (at_ : Int) (some ⟨gb, lo, none⟩) (dB - lo) (X.blk xs i) hL (by
                  rw [hbl]
                  refine X.Rd.imp (X.Rd.row 1 rfl) (fun w' hC => ?_)
                  rw [← hbk]
                  exact Pure.sub_C hC hd (by have := HIN.out; omega) HIN.out.2.2) (by rw [hbl]; have := HIN.out; omega) (by rw [← hbk]; exact X.u8all_drop (X.u8all_take HUX.out _) _) (fun ad e _ => by cases e; exact ⟨_, _, rfl⟩) (by have := Pure.ringW_pend d ls xs i; have := HPL.out; have := HLB2.out; omega)
                rw [hbl, show putE n (at_ : Int) 256 = 0 from by unfold putE; rw [if_pos (show hasB (at_ : Int) n = true from decide_eq_true ⟨by omega, by have := HIN.out; omega⟩), if_pos rfl], show put (Pure.ringW d ls xs i) n (at_ : Int) (X.blk xs i) = Pure.ringW d ls xs (i + 1) from by
                  unfold put
                  rw [if_pos ⟨show hasB (at_ : Int) n = true from decide_eq_true ⟨by omega, by have := HIN.out; omega⟩, hbl⟩, Int.toNat_natCast, hat, HP.out]
                  rfl] at h2
                exact h2⟩
              have HLO := Aside0.mk hlo
              clear hlt hat hlo hhi hbk hbl hN2
              have hw1a := HW1A.out
              have hw1 := HW1.out
              have hw2 := HW2.out
              have hw3a := HW3A.out
              have hw3 := HW3.out
              go_wp2_with fail
              refine start_ (n := 23) (S := (fun w' => X.Blk w' g (Pure.logC p (⟨ls.st, ls.len, ls.seq, pl, ls.live⟩ : Pure.LS) (.slice Al ls.live.length cl)) 93)) (ds := []) #[false, false, false, false, false, false, false, false, false, false, false, false, false, false, false, false, false, false, false, false, false, false, false] (by kernel_rfl) rfl rfl (HS.out.drew.boxed 1 rfl) (fun hHeld => ?_)
              have HSa := Aside0.mk (HS.out.drew)
              generalize World.drew _ = wa at *
              clear HS
              refine pure_ (i := 0) (N := some 80) (v := ?_) (a' := ?_) #[true, false, false, false, false, false, false, false, false, false, false, false, false, false, false, false, false, false, false, false, false, false, false] rfl rfl (by kernel_rfl) (fun _ _ _ h => h) (Or.inl ⟨by rfl, ?_⟩) ?_ ?_
              rotate_left
              · intro w'
                go_simp
                with_reducible rfl
              rotate_left
              · simp only [Act.put, List.setIfInBounds_toArray, List.set_cons_zero, List.set_cons_succ, i64_w, i32_w]
                rfl
              refine pure_ (i := 1) (N := some 81) (v := ?_) (a' := ?_) #[true, true, false, false, false, false, false, false, false, false, false, false, false, false, false, false, false, false, false, false, false, false, false] rfl rfl (by kernel_rfl) (fun _ _ _ h => h) (Or.inl ⟨by rfl, ?_⟩) ?_ ?_
              rotate_left
              · intro w'
                go_simp
                with_reducible rfl
              rotate_left
              · simp only [Act.put, List.setIfInBounds_toArray, List.set_cons_zero, List.set_cons_succ, i64_w, i32_w]
                rfl
              refine pure_ (i := 2) (N := some 82) (v := ?_) (a' := ?_) #[true, true, true, false, false, false, false, false, false, false, false, false, false, false, false, false, false, false, false, false, false, false, false] rfl rfl (by kernel_rfl) (fun _ _ _ h => h) (Or.inl ⟨by rfl, ?_⟩) ?_ ?_
              rotate_left
              · intro w'
                go_simp
                with_reducible rfl
              rotate_left
              · simp only [Act.put, List.setIfInBounds_toArray, List.set_cons_zero, List.set_cons_succ, i64_w, i32_w]
                rfl
              refine take_ (i := 3) (N := some 83) (v := .pointer (some ⟨p, 0, none⟩)) (a' := ?_) #[true, true, true, true, false, false, false, false, false, false, false, false, false, false, false, false, false, false, false, false, false, false, false] rfl rfl (by kernel_rfl) (fun _ _ _ h => h) (Or.inl ⟨by rfl, ?_⟩) hHeld ?_ ?_
              · intro w' hs_
                exact (by have x_ : w'.cell? ⟨g, 0, none⟩ = some (.pointer (some ⟨p, 0, none⟩)) := hs_.cell 0 _ rfl; go_simp; done)
              rotate_left
              · simp only [Act.put, List.setIfInBounds_toArray, List.set_cons_zero, List.set_cons_succ, i64_w, i32_w]
                rfl
              refine pure_ (i := 4) (N := some 84) (v := ?_) (a' := ?_) #[true, true, true, true, true, false, false, false, false, false, false, false, false, false, false, false, false, false, false, false, false, false, false] rfl rfl (by kernel_rfl) (fun _ _ _ h => h) (Or.inl ⟨by rfl, ?_⟩) ?_ ?_
              rotate_left
              · intro w'
                go_simp
                with_reducible rfl
              rotate_left
              · simp only [Act.put, List.setIfInBounds_toArray, List.set_cons_zero, List.set_cons_succ, i64_w, i32_w]
                rfl
              refine pure_ (i := 5) (N := some 85) (v := ?_) (a' := ?_) #[true, true, true, true, true, true, false, false, false, false, false, false, false, false, false, false, false, false, false, false, false, false, false] rfl rfl (by kernel_rfl) (fun _ _ _ h => h) (Or.inl ⟨by rfl, ?_⟩) ?_ ?_
              rotate_left
              · intro w'
                go_simp
                with_reducible rfl
              rotate_left
              · simp only [Act.put, List.setIfInBounds_toArray, List.set_cons_zero, List.set_cons_succ, i64_w, i32_w]
                rfl
              refine pure_ (i := 6) (N := some 86) (v := ?_) (a' := ?_) #[true, true, true, true, true, true, true, false, false, false, false, false, false, false, false, false, false, false, false, false, false, false, false] rfl rfl (by kernel_rfl) (fun _ _ _ h => h) (Or.inl ⟨by rfl, ?_⟩) ?_ ?_
              rotate_left
              · intro w'
                go_simp
                with_reducible rfl
              rotate_left
              · simp only [Act.put, List.setIfInBounds_toArray, List.set_cons_zero, List.set_cons_succ, i64_w, i32_w]
                rfl
              refine take_ (i := 7) (N := some 87) (v := .int .i64 (ls.st : Int)) (a' := ?_) #[true, true, true, true, true, true, true, true, false, false, false, false, false, false, false, false, false, false, false, false, false, false, false] rfl rfl (by kernel_rfl) (fun _ _ _ h => h) (Or.inl ⟨by rfl, ?_⟩) hHeld ?_ ?_
              · intro w' hs_
                exact (by have x_ : w'.cell? ⟨g, 1, none⟩ = some (.int .i64 (ls.st : Int)) := hs_.cell 1 _ rfl; go_simp; done)
              rotate_left
              · simp only [Act.put, List.setIfInBounds_toArray, List.set_cons_zero, List.set_cons_succ, i64_w, i32_w]
                rfl
              refine pure_ (i := 8) (N := some 88) (v := ?_) (a' := ?_) #[true, true, true, true, true, true, true, true, true, false, false, false, false, false, false, false, false, false, false, false, false, false, false] rfl rfl (by kernel_rfl) (fun _ _ _ h => h) (Or.inl ⟨by rfl, ?_⟩) ?_ ?_
              rotate_left
              · intro w'
                go_simp
                with_reducible rfl
              rotate_left
              · simp only [Act.put, List.setIfInBounds_toArray, List.set_cons_zero, List.set_cons_succ, i64_w, i32_w]
                rfl
              refine pure_ (i := 9) (N := some 89) (v := ?_) (a' := ?_) #[true, true, true, true, true, true, true, true, true, true, false, false, false, false, false, false, false, false, false, false, false, false, false] rfl rfl (by kernel_rfl) (fun _ _ _ h => h) (Or.inl ⟨by rfl, ?_⟩) ?_ ?_
              rotate_left
              · intro w'
                go_simp
                with_reducible rfl
              rotate_left
              · simp only [Act.put, List.setIfInBounds_toArray, List.set_cons_zero, List.set_cons_succ, i64_w, i32_w]
                rfl
              refine pure_ (i := 10) (N := some 90) (v := ?_) (a' := ?_) #[true, true, true, true, true, true, true, true, true, true, true, false, false, false, false, false, false, false, false, false, false, false, false] rfl rfl (by kernel_rfl) (fun _ _ _ h => h) (Or.inl ⟨by rfl, ?_⟩) ?_ ?_
              rotate_left
              · intro w'
                go_simp
                with_reducible rfl
              rotate_left
              · simp only [Act.put, List.setIfInBounds_toArray, List.set_cons_zero, List.set_cons_succ, i64_w, i32_w]
                rfl
              refine pure_ (i := 11) (N := some 91) (v := ?_) (a' := ?_) #[true, true, true, true, true, true, true, true, true, true, true, true, false, false, false, false, false, false, false, false, false, false, false] rfl rfl (by kernel_rfl) (fun _ _ _ h => h) (Or.inl ⟨by rfl, ?_⟩) ?_ ?_
              rotate_left
              · intro w'
                go_simp
                with_reducible rfl
              rotate_left
              · simp only [Act.put, List.setIfInBounds_toArray, List.set_cons_zero, List.set_cons_succ, i64_w, i32_w]
                rfl
              refine take_ (i := 12) (N := some 92) (v := .int .i64 (pl : Int)) (a' := ?_) #[true, true, true, true, true, true, true, true, true, true, true, true, true, false, false, false, false, false, false, false, false, false, false] rfl rfl (by kernel_rfl) (fun _ _ _ h => h) (Or.inl ⟨by rfl, ?_⟩) hHeld ?_ ?_
              · intro w' hs_
                exact (by have x_ : w'.cell? ⟨g, 4, none⟩ = some (.int .i64 (pl : Int)) := hs_.cell 4 _ rfl; go_simp; done)
              rotate_left
              · simp only [Act.put, List.setIfInBounds_toArray, List.set_cons_zero, List.set_cons_succ, i64_w, i32_w]
                rfl
              refine pure_ (i := 13) (N := some 93) (v := .int .i64 (at_ : Int)) (a' := ?_) #[true, true, true, true, true, true, true, true, true, true, true, true, true, true, false, false, false, false, false, false, false, false, false] rfl rfl (by kernel_rfl) (fun _ _ _ h => h) (Or.inl ⟨by rfl, ?_⟩) ?_ ?_
              · intro w'
                exact (by go_simp; first | done | (rw [i64_w]; assumption))
              rotate_left
              · simp only [Act.put, List.setIfInBounds_toArray, List.set_cons_zero, List.set_cons_succ, i64_w, i32_w]
                rfl
              refine pure_ (i := 14) (N := some 94) (v := ?_) (a' := ?_) #[true, true, true, true, true, true, true, true, true, true, true, true, true, true, true, false, false, false, false, false, false, false, false] rfl rfl (by kernel_rfl) (fun _ _ _ h => h) (Or.inl ⟨by rfl, ?_⟩) ?_ ?_
              rotate_left
              · intro w'
                go_simp
                with_reducible rfl
              rotate_left
              · simp only [Act.put, List.setIfInBounds_toArray, List.set_cons_zero, List.set_cons_succ, i64_w, i32_w]
                rfl
              refine pure_ (i := 15) (N := some 95) (v := ?_) (a' := ?_) #[true, true, true, true, true, true, true, true, true, true, true, true, true, true, true, true, false, false, false, false, false, false, false] rfl rfl (by kernel_rfl) (fun _ _ _ h => h) (Or.inl ⟨by rfl, ?_⟩) ?_ ?_
              rotate_left
              · intro w'
                go_simp
                with_reducible rfl
              rotate_left
              · simp only [Act.put, List.setIfInBounds_toArray, List.set_cons_zero, List.set_cons_succ, i64_w, i32_w]
                rfl
              refine pure_ (i := 16) (N := some 96) (v := .int .i64 (lo : Int)) (a' := ?_) #[true, true, true, true, true, true, true, true, true, true, true, true, true, true, true, true, true, false, false, false, false, false, false] rfl rfl (by kernel_rfl) (fun _ _ _ h => h) (Or.inl ⟨by rfl, ?_⟩) ?_ ?_
              · intro w'
                exact (by go_simp; first | done | (rw [i64_w]; assumption))
              rotate_left
              · simp only [Act.put, List.setIfInBounds_toArray, List.set_cons_zero, List.set_cons_succ, i64_w, i32_w]
                rfl
              refine pure_ (i := 17) (N := some 97) (v := ?_) (a' := ?_) #[true, true, true, true, true, true, true, true, true, true, true, true, true, true, true, true, true, true, false, false, false, false, false] rfl rfl (by kernel_rfl) (fun _ _ _ h => h) (Or.inl ⟨by rfl, ?_⟩) ?_ ?_
              rotate_left
              · intro w'
                go_simp
                with_reducible rfl
              rotate_left
              · simp only [Act.put, List.setIfInBounds_toArray, List.set_cons_zero, List.set_cons_succ, i64_w, i32_w]
                rfl
              refine pure_ (i := 18) (N := some 98) (v := ?_) (a' := ?_) #[true, true, true, true, true, true, true, true, true, true, true, true, true, true, true, true, true, true, true, false, false, false, false] rfl rfl (by kernel_rfl) (fun _ _ _ h => h) (Or.inl ⟨by rfl, ?_⟩) ?_ ?_
              rotate_left
              · intro w'
                go_simp
                with_reducible rfl
              rotate_left
              · simp only [Act.put, List.setIfInBounds_toArray, List.set_cons_zero, List.set_cons_succ, i64_w, i32_w]
                rfl
              refine pure_ (i := 19) (N := some 99) (v := .int .i64 (hi : Int)) (a' := ?_) #[true, true, true, true, true, true, true, true, true, true, true, true, true, true, true, true, true, true, true, true, false, false, false] rfl rfl (by kernel_rfl) (fun _ _ _ h => h) (Or.inl ⟨by rfl, ?_⟩) ?_ ?_
              · intro w'
                exact (by go_simp; first | done | (rw [i64_w]; assumption))
              rotate_left
              · simp only [Act.put, List.setIfInBounds_toArray, List.set_cons_zero, List.set_cons_succ, i64_w, i32_w]
                rfl
              refine pure_ (i := 20) (N := some 100) (v := .slice (some ⟨gb, lo, none⟩) 256 (dB - lo)) (a' := ?_) #[true, true, true, true, true, true, true, true, true, true, true, true, true, true, true, true, true, true, true, true, true, false, false] rfl rfl (by kernel_rfl) (fun _ _ _ h => h) (Or.inl ⟨by rfl, ?_⟩) ?_ ?_
              · intro w'
                exact (by obtain ⟨h1_, h2_, h3_, h4_⟩ := HSL.out; go_simp; done)
              rotate_left
              · simp only [Act.put, List.setIfInBounds_toArray, List.set_cons_zero, List.set_cons_succ, i64_w, i32_w]
                rfl
              refine one_ (i := 21) (N := some 101) #[true, true, true, true, true, true, true, true, true, true, true, true, true, true, true, true, true, true, true, true, true, true, false] rfl rfl (by kernel_rfl) (by decide) (fun K hK => ?_)
              refine goes_ Try.func13 (by kernel_rfl) rfl #[.pointer (some ⟨p, 0, none⟩), .int .i64 (at_ : Int), .slice (some ⟨gb, lo, none⟩) 256 (dB - lo)] (by rfl) rfl rfl (by (try simp only [List.map_toArray, List.map_cons, List.map_nil]); first | done | rfl) ?_
              refine (HWR.out wa HSa.out).mono ?_
              rintro e w5 ⟨rfl, hs⟩
              have HS5 := Aside0.mk hs
              refine ⟨_, rfl, ?_⟩
              clear hs HSa hHeld
              refine hK.out _ _ (HS5.out.boxed 1 rfl) (fun hHeld => ?_)
              clear hK K
              refine norm_ (a' := ?_) ?_ ?_
              rotate_left
              · show Act.put _ (some 101) _ = _
                simp only [Act.put, List.setIfInBounds_toArray, List.set_cons_zero, List.set_cons_succ, i64_w, i32_w]
                rfl
              refine pure_ (i := 22) (N := some 17) (v := ?_) (a' := ?_) #[true, true, true, true, true, true, true, true, true, true, true, true, true, true, true, true, true, true, true, true, true, true, true] rfl rfl (by kernel_rfl) (fun _ _ _ h => h) (Or.inl ⟨by rfl, ?_⟩) ?_ ?_
              rotate_left
              · intro w'
                go_simp
                with_reducible rfl
              rotate_left
              · simp only [Act.put, List.setIfInBounds_toArray, List.set_cons_zero, List.set_cons_succ, i64_w, i32_w]
                rfl
              refine done_ (by kernel_rfl) ?_
              go_wp2_with fail
              clear hw1a hw1 hw2 hw3a hw3
              obtain ⟨pl2, hpl2⟩ : ∃ pl2 : Nat, pl2 = (pl + 1) % (ls.len - 1) := ⟨_, rfl⟩
              have HW4 : Aside0 (wrap64 ((pl : Int) + 1) = (pl : Int) + 1) := ⟨Pure.sucw pl (by have := HLB2.out; omega)⟩
              have hw5 : ((pl : Int) + 1).tmod ((ls.len - 1 : Nat) : Int) = (pl2 : Int) := by rw [Int.tmod_eq_emod_of_nonneg (by omega), hpl2]; exact (Int.natCast_emod (pl + 1) (ls.len - 1)).symm
              have hz : ¬ (ls.len - 1 = 0) := by have := HLB2.out; omega
              have HP2 : Aside0 (pl2 = (ls.pl + (i + 1)) % (ls.len - 1)) := ⟨by rw [hpl2, HP.out, Nat.mod_add_mod, Nat.add_assoc]⟩
              have HWP : Aside0 (wrap64 (pl2 : Int) = (pl2 : Int)) := ⟨(Pure.wrap64_id (by have := HLB2.out; have := Nat.mod_lt (pl + 1) (show 0 < ls.len - 1 by omega); omega) (by have := HLB2.out; have := Nat.mod_lt (pl + 1) (show 0 < ls.len - 1 by omega); omega)).trans (by have := HLB2.out; have := Nat.mod_lt (pl + 1) (show 0 < ls.len - 1 by omega); omega)⟩
              clear hpl2
              have hw4 := HW4.out
              have hwp := HWP.out
              refine start_ (n := 14) (S := (fun w' => X.Blk w' g (Pure.logC p (⟨ls.st, ls.len, ls.seq, pl, ls.live⟩ : Pure.LS) (.slice Al ls.live.length cl)) 93)) (ds := [13]) #[false, false, false, false, false, false, false, false, false, false, false, false, false, false] (by kernel_rfl) rfl rfl (HS5.out.drew.boxed 1 rfl) (fun hHeld => ?_)
              have HSa := Aside0.mk (HS5.out.drew)
              generalize World.drew _ = wa at *
              clear HS5
              refine pure_ (i := 0) (N := some 105) (v := ?_) (a' := ?_) #[true, false, false, false, false, false, false, false, false, false, false, false, false, false] rfl rfl (by kernel_rfl) (fun _ _ _ h => h) (Or.inl ⟨by rfl, ?_⟩) ?_ ?_
              rotate_left
              · intro w'
                go_simp
                with_reducible rfl
              rotate_left
              · simp only [Act.put, List.setIfInBounds_toArray, List.set_cons_zero, List.set_cons_succ, i64_w, i32_w]
                rfl
              refine pure_ (i := 1) (N := some 106) (v := ?_) (a' := ?_) #[true, true, false, false, false, false, false, false, false, false, false, false, false, false] rfl rfl (by kernel_rfl) (fun _ _ _ h => h) (Or.inl ⟨by rfl, ?_⟩) ?_ ?_
              rotate_left
              · intro w'
                go_simp
                with_reducible rfl
              rotate_left
              · simp only [Act.put, List.setIfInBounds_toArray, List.set_cons_zero, List.set_cons_succ, i64_w, i32_w]
                rfl
              refine pure_ (i := 2) (N := some 107) (v := ?_) (a' := ?_) #[true, true, true, false, false, false, false, false, false, false, false, false, false, false] rfl rfl (by kernel_rfl) (fun _ _ _ h => h) (Or.inl ⟨by rfl, ?_⟩) ?_ ?_
              rotate_left
              · intro w'
                go_simp
                with_reducible rfl
              rotate_left
              · simp only [Act.put, List.setIfInBounds_toArray, List.set_cons_zero, List.set_cons_succ, i64_w, i32_w]
                rfl
              refine pure_ (i := 3) (N := some 108) (v := ?_) (a' := ?_) #[true, true, true, true, false, false, false, false, false, false, false, false, false, false] rfl rfl (by kernel_rfl) (fun _ _ _ h => h) (Or.inl ⟨by rfl, ?_⟩) ?_ ?_
              rotate_left
              · intro w'
                go_simp
                with_reducible rfl
              rotate_left
              · simp only [Act.put, List.setIfInBounds_toArray, List.set_cons_zero, List.set_cons_succ, i64_w, i32_w]
                rfl
              refine take_ (i := 4) (N := some 109) (v := .int .i64 (pl : Int)) (a' := ?_) #[true, true, true, true, true, false, false, false, false, false, false, false, false, false] rfl rfl (by kernel_rfl) (fun _ _ _ h => h) (Or.inl ⟨by rfl, ?_⟩) hHeld ?_ ?_
              · intro w' hs_
                exact (by have x_ : w'.cell? ⟨g, 4, none⟩ = some (.int .i64 (pl : Int)) := hs_.cell 4 _ rfl; go_simp; done)
              rotate_left
              · simp only [Act.put, List.setIfInBounds_toArray, List.set_cons_zero, List.set_cons_succ, i64_w, i32_w]
                rfl
              refine pure_ (i := 5) (N := some 110) (v := ?_) (a' := ?_) #[true, true, true, true, true, true, false, false, false, false, false, false, false, false] rfl rfl (by kernel_rfl) (fun _ _ _ h => h) (Or.inl ⟨by rfl, ?_⟩) ?_ ?_
              rotate_left
              · intro w'
                go_simp
                with_reducible rfl
              rotate_left
              · simp only [Act.put, List.setIfInBounds_toArray, List.set_cons_zero, List.set_cons_succ, i64_w, i32_w]
                rfl
              refine pure_ (i := 6) (N := some 111) (v := ?_) (a' := ?_) #[true, true, true, true, true, true, true, false, false, false, false, false, false, false] rfl rfl (by kernel_rfl) (fun _ _ _ h => h) (Or.inl ⟨by rfl, ?_⟩) ?_ ?_
              rotate_left
              · intro w'
                go_simp
                with_reducible rfl
              rotate_left
              · simp only [Act.put, List.setIfInBounds_toArray, List.set_cons_zero, List.set_cons_succ, i64_w, i32_w]
                rfl
              refine pure_ (i := 7) (N := some 112) (v := ?_) (a' := ?_) #[true, true, true, true, true, true, true, true, false, false, false, false, false, false] rfl rfl (by kernel_rfl) (fun _ _ _ h => h) (Or.inl ⟨by rfl, ?_⟩) ?_ ?_
              rotate_left
              · intro w'
                go_simp
                with_reducible rfl
              rotate_left
              · simp only [Act.put, List.setIfInBounds_toArray, List.set_cons_zero, List.set_cons_succ, i64_w, i32_w]
                rfl
              refine pure_ (i := 8) (N := some 113) (v := ?_) (a' := ?_) #[true, true, true, true, true, true, true, true, true, false, false, false, false, false] rfl rfl (by kernel_rfl) (fun _ _ _ h => h) (Or.inl ⟨by rfl, ?_⟩) ?_ ?_
              rotate_left
              · intro w'
                go_simp
                with_reducible rfl
              rotate_left
              · simp only [Act.put, List.setIfInBounds_toArray, List.set_cons_zero, List.set_cons_succ, i64_w, i32_w]
                rfl
              refine take_ (i := 9) (N := some 114) (v := .int .i64 ((ls.len - 1 : Nat) : Int)) (a' := ?_) #[true, true, true, true, true, true, true, true, true, true, false, false, false, false] rfl rfl (by kernel_rfl) (fun _ _ _ h => h) (Or.inl ⟨by rfl, ?_⟩) hHeld ?_ ?_
              · intro w' hs_
                exact (by have x_ : w'.cell? ⟨g, 2, none⟩ = some (.int .i64 ((ls.len - 1 : Nat) : Int)) := hs_.cell 2 _ rfl; go_simp; done)
              rotate_left
              · simp only [Act.put, List.setIfInBounds_toArray, List.set_cons_zero, List.set_cons_succ, i64_w, i32_w]
                rfl
              refine pure_ (i := 10) (N := some 115) (v := .int .i64 (pl2 : Int)) (a' := ?_) #[true, true, true, true, true, true, true, true, true, true, true, false, false, false] rfl rfl (by kernel_rfl) (fun _ _ _ h => h) (Or.inl ⟨by rfl, ?_⟩) ?_ ?_
              · intro w'
                exact (by go_simp; first | done | (rw [i64_w]; assumption))
              rotate_left
              · simp only [Act.put, List.setIfInBounds_toArray, List.set_cons_zero, List.set_cons_succ, i64_w, i32_w]
                rfl
              refine pure_ (i := 11) (N := some 116) (v := ?_) (a' := ?_) #[true, true, true, true, true, true, true, true, true, true, true, true, false, false] rfl rfl (by kernel_rfl) (fun _ _ _ h => h) (Or.inl ⟨by rfl, ?_⟩) ?_ ?_
              rotate_left
              · intro w'
                go_simp
                with_reducible rfl
              rotate_left
              · simp only [Act.put, List.setIfInBounds_toArray, List.set_cons_zero, List.set_cons_succ, i64_w, i32_w]
                rfl
              refine pure_ (i := 12) (N := some 117) (v := ?_) (a' := ?_) #[true, true, true, true, true, true, true, true, true, true, true, true, true, false] rfl rfl (by kernel_rfl) (fun _ _ _ h => h) (Or.inl ⟨by rfl, ?_⟩) ?_ ?_
              rotate_left
              · intro w'
                go_simp
                with_reducible rfl
              rotate_left
              · simp only [Act.put, List.setIfInBounds_toArray, List.set_cons_zero, List.set_cons_succ, i64_w, i32_w]
                rfl
              refine last_ (i := 13) (N := none) #[true, true, true, true, true, true, true, true, true, true, true, true, true, true] rfl rfl (by kernel_rfl) (by decide) (fun K hK => ?_)
              have c4_ : wa.cell? ⟨g, 4, none⟩ = some (.int .i64 (pl : Int)) := (HSa.out.boxed 1 rfl).cell 4 _ rfl
              have f4_ := (HSa.out.boxed 1 rfl).free 4
              refine skip_ (w1 := ?_) (by rfl) rfl ?_ ?_
              rotate_left
              · go_simp
                rfl
              have HS6 := Aside0.mk (((HSa.out.swap).set 4 (.int .i64 (pl2 : Int))).swap)
              clear c4_ f4_ HSa hHeld
              refine hK.out _ _ ?_
              clear hK K
              refine done_ (by kernel_rfl) ?_
              clear hw4 hwp hw5 hz
              have hw3a := HW3A.out
              go_wp2_with fail
              cases gk with
              | zero => exact absurd HK.out (by have := HLB2.out; omega)
              | succ k1 =>
                go_roundg k1
                case measure => omega
                case rel => exact ⟨i + 1, pl2, by rw [hw3a]; rfl, ⟨by have := HK.out; omega⟩, HP2, HS6⟩
            · have q0 : decide ((i : Int) < (N : Int)) = false := decide_eq_false (by omega)
              have q00 : decide (i < N) = false := decide_eq_false hlt
              obtain rfl : N = i := by have := HK.out; omega
              have HSX := Aside0.mk ((Pure.txn_freeze (sq := sq) (HS.out.perm [4, 5, 0, 1, 3, 6] 7 (by decide) (by decide)) HLL2.out).perm [1, 2, 3, 0, 4] 5 (by decide) (by decide))
              obtain ⟨us, hus⟩ : ∃ us : Nat, us = ls.used + N := ⟨_, rfl⟩
              have HUS := Aside0.mk hus
              have HWU : Aside0 (wrap64 ((ls.used : Int) + (N : Int)) = (us : Int)) := ⟨(Pure.wrap64_id (by omega) (by have := HRM.out; have := HOK.out.l1; omega)).trans (by omega)⟩
              clear HS hlt hus
              have hwu := HWU.out
              have HS := HSX
              clear HSX
              go_wp2_with fail
              refine start_ (n := 21) (S := (fun w' => X.Blk w' g (Pure.logC p (⟨ls.st, ls.len, ls.seq, pl, ls.live⟩ : Pure.LS) (.slice Al ls.live.length cl)) 93 ∧ X.Blk w' gt #[.int .u64 sq, .slice Aw ws.length cw, .slice Br rs.length dr] 60)) (ds := [17, 20]) #[false, false, false, false, false, false, false, false, false, false, false, false, false, false, false, false, false, false, false, false, false] (by kernel_rfl) rfl rfl ⟨HS.out.drew.boxed 1 rfl, HS.out.drew.boxed 2 rfl⟩ (fun hHeld => ?_)
              have HSa := Aside0.mk (HS.out.drew)
              generalize World.drew _ = wa at *
              clear HS
              refine pure_ (i := 0) (N := some 119) (v := ?_) (a' := ?_) #[true, false, false, false, false, false, false, false, false, false, false, false, false, false, false, false, false, false, false, false, false] rfl rfl (by kernel_rfl) (fun _ _ _ h => h) (Or.inl ⟨by rfl, ?_⟩) ?_ ?_
              rotate_left
              · intro w'
                go_simp
                with_reducible rfl
              rotate_left
              · simp only [Act.put, List.setIfInBounds_toArray, List.set_cons_zero, List.set_cons_succ, i64_w, i32_w]
                rfl
              refine pure_ (i := 1) (N := some 120) (v := ?_) (a' := ?_) #[true, true, false, false, false, false, false, false, false, false, false, false, false, false, false, false, false, false, false, false, false] rfl rfl (by kernel_rfl) (fun _ _ _ h => h) (Or.inl ⟨by rfl, ?_⟩) ?_ ?_
              rotate_left
              · intro w'
                go_simp
                with_reducible rfl
              rotate_left
              · simp only [Act.put, List.setIfInBounds_toArray, List.set_cons_zero, List.set_cons_succ, i64_w, i32_w]
                rfl
              refine pure_ (i := 2) (N := some 121) (v := ?_) (a' := ?_) #[true, true, true, false, false, false, false, false, false, false, false, false, false, false, false, false, false, false, false, false, false] rfl rfl (by kernel_rfl) (fun _ _ _ h => h) (Or.inl ⟨by rfl, ?_⟩) ?_ ?_
              rotate_left
              · intro w'
                go_simp
                with_reducible rfl
              rotate_left
              · simp only [Act.put, List.setIfInBounds_toArray, List.set_cons_zero, List.set_cons_succ, i64_w, i32_w]
                rfl
              refine pure_ (i := 3) (N := some 122) (v := ?_) (a' := ?_) #[true, true, true, true, false, false, false, false, false, false, false, false, false, false, false, false, false, false, false, false, false] rfl rfl (by kernel_rfl) (fun _ _ _ h => h) (Or.inl ⟨by rfl, ?_⟩) ?_ ?_
              rotate_left
              · intro w'
                go_simp
                with_reducible rfl
              rotate_left
              · simp only [Act.put, List.setIfInBounds_toArray, List.set_cons_zero, List.set_cons_succ, i64_w, i32_w]
                rfl
              refine pure_ (i := 4) (N := some 123) (v := ?_) (a' := ?_) #[true, true, true, true, true, false, false, false, false, false, false, false, false, false, false, false, false, false, false, false, false] rfl rfl (by kernel_rfl) (fun _ _ _ h => h) (Or.inl ⟨by rfl, ?_⟩) ?_ ?_
              rotate_left
              · intro w'
                go_simp
                with_reducible rfl
              rotate_left
              · simp only [Act.put, List.setIfInBounds_toArray, List.set_cons_zero, List.set_cons_succ, i64_w, i32_w]
                rfl
              refine take_ (i := 5) (N := some 124) (v := .slice Al ls.live.length cl) (a' := ?_) #[true, true, true, true, true, true, false, false, false, false, false, false, false, false, false, false, false, false, false, false, false] rfl rfl (by kernel_rfl) (fun _ _ _ h => h) (Or.inl ⟨by rfl, ?_⟩) hHeld ?_ ?_
              · intro w' hs_
                obtain ⟨hs0, hs1⟩ := hs_
                exact (by have x_ : w'.cell? ⟨g, 5, none⟩ = some (.slice Al ls.live.length cl) := hs0.cell 5 _ rfl; go_simp; done)
              rotate_left
              · simp only [Act.put, List.setIfInBounds_toArray, List.set_cons_zero, List.set_cons_succ, i64_w, i32_w]
                rfl
              refine take_ (i := 6) (N := some 125) (v := .agg #[.int .u64 sq, .slice Aw ws.length cw, .slice Br rs.length dr]) (a' := ?_) #[true, true, true, true, true, true, true, false, false, false, false, false, false, false, false, false, false, false, false, false, false] rfl rfl (by kernel_rfl) (fun _ _ _ h => h) (Or.inl ⟨by rfl, ?_⟩) hHeld ?_ ?_
              · intro w' hs_
                obtain ⟨hs0, hs1⟩ := hs_
                exact X.load_exec 60 (.tmp 8) (by rfl) gt 0 (by rfl) [.int .u64 sq, .slice Aw ws.length cw, .slice Br rs.length dr] _ (Pure.blk_range hs1) Try.underlying60 rfl Pure.info_txn
              rotate_left
              · simp only [Act.put, List.setIfInBounds_toArray, List.set_cons_zero, List.set_cons_succ, i64_w, i32_w]
                rfl
              refine pure_ (i := 9) (N := some 128) (v := ?_) (a' := ?_) #[true, true, true, true, true, true, true, false, false, true, false, false, false, false, false, false, false, false, false, false, false] rfl rfl (by kernel_rfl) (fun _ _ _ h => h) (Or.inl ⟨by rfl, ?_⟩) ?_ ?_
              rotate_left
              · intro w'
                go_simp
                with_reducible rfl
              rotate_left
              · simp only [Act.put, List.setIfInBounds_toArray, List.set_cons_zero, List.set_cons_succ, i64_w, i32_w]
                rfl
              refine pure_ (i := 10) (N := some 129) (v := ?_) (a' := ?_) #[true, true, true, true, true, true, true, false, false, true, true, false, false, false, false, false, false, false, false, false, false] rfl rfl (by kernel_rfl) (fun _ _ _ h => h) (Or.inl ⟨by rfl, ?_⟩) ?_ ?_
              rotate_left
              · intro w'
                go_simp
                with_reducible rfl
              rotate_left
              · simp only [Act.put, List.setIfInBounds_toArray, List.set_cons_zero, List.set_cons_succ, i64_w, i32_w]
                rfl
              refine pure_ (i := 11) (N := some 130) (v := ?_) (a' := ?_) #[true, true, true, true, true, true, true, false, false, true, true, true, false, false, false, false, false, false, false, false, false] rfl rfl (by kernel_rfl) (fun _ _ _ h => h) (Or.inl ⟨by rfl, ?_⟩) ?_ ?_
              rotate_left
              · intro w'
                go_simp
                with_reducible rfl
              rotate_left
              · simp only [Act.put, List.setIfInBounds_toArray, List.set_cons_zero, List.set_cons_succ, i64_w, i32_w]
                rfl
              refine take_ (i := 12) (N := some 131) (v := .int .i64 (ls.used : Int)) (a' := ?_) #[true, true, true, true, true, true, true, false, false, true, true, true, true, false, false, false, false, false, false, false, false] rfl rfl (by kernel_rfl) (fun _ _ _ h => h) (Or.inl ⟨by rfl, ?_⟩) hHeld ?_ ?_
              · intro w' hs_
                obtain ⟨hs0, hs1⟩ := hs_
                exact (by have x_ : w'.cell? ⟨g, 6, none⟩ = some (.int .i64 (ls.used : Int)) := hs0.cell 6 _ rfl; go_simp; done)
              rotate_left
              · simp only [Act.put, List.setIfInBounds_toArray, List.set_cons_zero, List.set_cons_succ, i64_w, i32_w]
                rfl
              refine pure_ (i := 13) (N := some 132) (v := ?_) (a' := ?_) #[true, true, true, true, true, true, true, false, false, true, true, true, true, true, false, false, false, false, false, false, false] rfl rfl (by kernel_rfl) (fun _ _ _ h => h) (Or.inl ⟨by rfl, ?_⟩) ?_ ?_
              rotate_left
              · intro w'
                go_simp
                with_reducible rfl
              rotate_left
              · simp only [Act.put, List.setIfInBounds_toArray, List.set_cons_zero, List.set_cons_succ, i64_w, i32_w]
                rfl
              refine pure_ (i := 14) (N := some 133) (v := .int .i64 (us : Int)) (a' := ?_) #[true, true, true, true, true, true, true, false, false, true, true, true, true, true, true, false, false, false, false, false, false] rfl rfl (by kernel_rfl) (fun _ _ _ h => h) (Or.inl ⟨by rfl, ?_⟩) ?_ ?_
              · intro w'
                exact (by go_simp; first | done | (rw [i64_w]; assumption))
              rotate_left
              · simp only [Act.put, List.setIfInBounds_toArray, List.set_cons_zero, List.set_cons_succ, i64_w, i32_w]
                rfl
              refine one_ (i := 7) (N := some 126) #[true, true, true, true, true, true, true, true, false, true, true, true, true, true, true, false, false, false, false, false, false] rfl rfl (by kernel_rfl) (by decide) (fun K hK => ?_)
              refine X.val_ (by rfl) rfl (X.slice_exec (.tmp 125) (by rfl) _ _ (by rfl) (Pure.sliceT wa [.int .u64 sq, .slice Aw ws.length cw, .slice Br rs.length dr] rfl)) ?_
              have HSb := Aside0.mk (HSa.out.alloc #[.int .u64 sq, .slice Aw ws.length cw, .slice Br rs.length dr] 60)
              obtain ⟨gv, hgv⟩ : ∃ gv, gv = wa.heap.size := ⟨_, rfl⟩
              rw [← hgv] at HSb ⊢
              generalize wa.alloc _ = wb at *
              clear HSa hgv hHeld
              refine hK.out _ _ ⟨HSb.out.boxed 2 rfl, HSb.out.boxed 3 rfl⟩ (fun hHeld => ?_)
              clear hK K
              refine norm_ (a' := ?_) ?_ ?_
              rotate_left
              · show Act.put _ (some 126) _ = _
                simp only [Act.put, List.setIfInBounds_toArray, List.set_cons_zero, List.set_cons_succ, i64_w, i32_w]
                rfl
              have HXC := Aside0.mk (X.C_raw_one (HSb.out.boxed 0 rfl) rfl (by intro v hv; rcases List.mem_cons.1 hv with rfl | hv; rfl; rcases List.mem_cons.1 hv with rfl | hv; rfl; rcases List.mem_cons.1 hv with rfl | hv; rfl; cases hv))
              obtain ⟨cells, ok, hR, hcl, hfr, hadd⟩ := (HSb.out.perm [5, 4, 1, 2, 3] 6 (by decide) (by decide)).radd
              refine one_ (i := 8) (N := some 127) #[true, true, true, true, true, true, true, true, true, true, true, true, true, true, true, false, false, false, false, false, false] rfl rfl (by kernel_rfl) (by decide) (fun K hK => ?_)
              refine Kd.R_append_rows_step (Kd.raw 3) (w0 := wb) 0 (by rfl) (.tmp 124) (.tmp 126) 43 60 (.agg #[.int .u64 0, .slice none 0 0, .slice none 0 0]) 56 rfl Try.underlying43 Pure.infoT3 rfl (by decide) (by decide) _ cells [[.int .u64 sq, .slice Aw ws.length cw, .slice Br rs.length dr]] _ _ _ ok (fun _ => False) (by rfl) (by rfl) hR HXC.out (fun _ _ h => h) (fun _ h => h.elim) hfr (Below.refl 0 wb) (Nat.zero_le _) (by rw [hcl]; have := HLL.out; omega) ?_
              intro v6 w6 hr6 hb6 hg6 ha6
              have HSd := Aside0.mk (hadd hr6 hg6)
              obtain ⟨A6, c6, e6⟩ := Kd.R_slice hr6
              rw [List.length_append, hcl] at e6
              rw [show ls.live.length + [[Value.int .u64 sq, Value.slice Aw ws.length cw, Value.slice Br rs.length dr]].length = ls.live.length + 1 from rfl] at e6
              subst e6
              clear hr6 hb6 hg6 ha6 hadd hR hfr hcl HXC HSb hHeld
              refine hK.out _ _ ⟨HSd.out.boxed 2 rfl, HSd.out.boxed 3 rfl⟩ (fun hHeld => ?_)
              clear hK K
              refine norm_ (a' := ?_) ?_ ?_
              rotate_left
              · show Act.put _ (some 127) _ = _
                simp only [Act.put, List.setIfInBounds_toArray, List.set_cons_zero, List.set_cons_succ, i64_w, i32_w]
                rfl
              refine pure_ (i := 15) (N := some 134) (v := ?_) (a' := ?_) #[true, true, true, true, true, true, true, true, true, true, true, true, true, true, true, true, false, false, false, false, false] rfl rfl (by kernel_rfl) (fun _ _ _ h => h) (Or.inl ⟨by rfl, ?_⟩) ?_ ?_
              rotate_left
              · intro w'
                go_simp
                with_reducible rfl
              rotate_left
              · simp only [Act.put, List.setIfInBounds_toArray, List.set_cons_zero, List.set_cons_succ, i64_w, i32_w]
                rfl
              refine pure_ (i := 16) (N := some 135) (v := ?_) (a' := ?_) #[true, true, true, true, true, true, true, true, true, true, true, true, true, true, true, true, true, false, false, false, false] rfl rfl (by kernel_rfl) (fun _ _ _ h => h) (Or.inl ⟨by rfl, ?_⟩) ?_ ?_
              rotate_left
              · intro w'
                go_simp
                with_reducible rfl
              rotate_left
              · simp only [Act.put, List.setIfInBounds_toArray, List.set_cons_zero, List.set_cons_succ, i64_w, i32_w]
                rfl
              have HSe := Aside0.mk (HSd.out.perm [2, 0, 1, 3] 4 (by decide) (by decide))
              clear HSd hHeld
              refine last_ (i := 17) (N := none) #[true, true, true, true, true, true, true, true, true, true, true, true, true, true, true, true, true, true, false, false, false] rfl rfl (by kernel_rfl) (by decide) (fun K hK => ?_)
              have c_ : World.cell? _ ⟨g, 5, none⟩ = some (.slice Al ls.live.length cl) := (HSe.out.boxed 0 rfl).cell 5 _ rfl
              have f_ := (HSe.out.boxed 0 rfl).free 5
              refine skip_ (w1 := ?_) (by rfl) rfl ?_ ?_
              rotate_left
              · go_simp
                rfl
              have HSf := Aside0.mk (HSe.out.set 5 (.slice A6 (ls.live.length + 1) c6))
              clear c_ f_ HSe
              refine hK.out _ _ ?_
              clear hK K
              refine pure_ (i := 18) (N := some 136) (v := ?_) (a' := ?_) #[true, true, true, true, true, true, true, true, true, true, true, true, true, true, true, true, true, true, true, false, false] rfl rfl (by kernel_rfl) (fun _ _ _ h => h) (Or.inl ⟨by rfl, ?_⟩) ?_ ?_
              rotate_left
              · intro w'
                go_simp
                with_reducible rfl
              rotate_left
              · simp only [Act.put, List.setIfInBounds_toArray, List.set_cons_zero, List.set_cons_succ, i64_w, i32_w]
                rfl
              refine pure_ (i := 19) (N := some 137) (v := ?_) (a' := ?_) #[true, true, true, true, true, true, true, true, true, true, true, true, true, true, true, true, true, true, true, true, false] rfl rfl (by kernel_rfl) (fun _ _ _ h => h) (Or.inl ⟨by rfl, ?_⟩) ?_ ?_
              rotate_left
              · intro w'
                go_simp
                with_reducible rfl
              rotate_left
              · simp only [Act.put, List.setIfInBounds_toArray, List.set_cons_zero, List.set_cons_succ, i64_w, i32_w]
                rfl
              refine last_ (i := 20) (N := none) #[true, true, true, true, true, true, true, true, true, true, true, true, true, true, true, true, true, true, true, true, true] rfl rfl (by kernel_rfl) (by decide) (fun K hK => ?_)
              have c_ : World.cell? _ ⟨g, 6, none⟩ = some (.int .i64 (ls.used : Int)) := (HSf.out.boxed 0 rfl).cell 6 _ rfl
              have f_ := (HSf.out.boxed 0 rfl).free 6
              refine skip_ (w1 := ?_) (by rfl) rfl ?_ ?_
              rotate_left
              · go_simp
                rfl
              have HSg := Aside0.mk (HSf.out.set 6 (.int .i64 (us : Int)))
              clear c_ f_ HSf
              refine hK.out _ _ ?_
              clear hK K
              refine done_ (by kernel_rfl) ?_
              clear hwu
              have c3_ : World.cell? _ ⟨g, 3, none⟩ = some (.int .u64 ls.seq) := (HSg.out.boxed 0 rfl).cell 3 _ rfl
              have f3_ := (HSg.out.boxed 0 rfl).free 3
              have ct_ : World.cell? _ ⟨gt, 0, none⟩ = some (.int .u64 sq) := (HSg.out.boxed 3 rfl).cell 0 _ rfl
              have HSh := Aside0.mk (HSg.out.set 3 (.int .u64 (IntKind.u64.wrap (ls.seq + 1))))
              have ct2_ : World.cell? _ ⟨gt, 0, none⟩ = some (.int .u64 sq) := (HSh.out.boxed 3 rfl).cell 0 _ rfl
              go_wp2_with fail
              go_ret2
              rw [show Pure.appQ n ls ws rs = ls.seq from if_pos HE.out, HE.out, show Pure.appD n d ls ws rs = Pure.ringW d ls (encL ls.seq ws rs) (ws.length + 2) from if_pos HE.out, show Pure.appS n ls ws rs = ⟨ls.st, ls.len, IntKind.u64.wrap (ls.seq + 1), (ls.pl + (ws.length + 2)) % (ls.len - 1), ls.live ++ [⟨ls.seq, ws, rs⟩]⟩ from if_pos HE.out]
              have hP := HP.out
              have hL := HSh.out
              have hU := HUS.out
              have hX := HXE.out
              have hN := HN.out
              have hQ := HSQ.out
              subst hQ
              subst hN
              subst hX
              subst hP
              have hu2 : us = (⟨ls.st, ls.len, IntKind.u64.wrap (ls.seq + 1), (ls.pl + (ws.length + 2)) % (ls.len - 1), ls.live ++ [⟨ls.seq, ws, rs⟩]⟩ : Pure.LS).used := by
                rw [hU]; unfold Pure.LS.used; rw [List.map_append, List.sum_append]; rfl
              refine ⟨rfl, ?_⟩
              subst hu2
              exact (Pure.logP_close (v := .slice A6 (ls.live.length + 1) c6) (hL.perm [0, 1, 2] 4 (by decide) (by decide))).swap
end Go.Proofs.Ytlbfpjhnpnbikaa.U
