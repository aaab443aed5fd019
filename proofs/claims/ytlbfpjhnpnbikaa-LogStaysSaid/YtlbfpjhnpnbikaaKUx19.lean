/- Ux19: what this claim uses. Laid by slim.py (ours). -/
import Derived.Test.YtlbfpjhnpnbikaaKUx0
namespace Go.Proofs.Ytlbfpjhnpnbikaa.U
open Go.RowKit Go.Proofs.YtlbfpjhnpnbikaaW.PrintWords Go.Proofs.YtlbfpjhnpnbikaaW.PrintLast Go.Proofs.YtlbfpjhnpnbikaaW.PrintMore
attribute [local go_sem] max2_int min2_int max_two min_two max_three min_three max_four min_four
set_option linter.unusedVariables false
set_option linter.unusedSimpArgs false
theorem info_write : (Try.prog.info? 86).map (·.size) = some 257 := by kernel_rfl
def zeroW : Array Value := #[.int .i64 0] ++ Array.replicate 256 (.int .u8 0)
theorem zeroW_size : zeroW.size = 257 := by simp [zeroW]
theorem zero_write (w : World) : (zeroValue 86).run Try.prog w = .ok (.agg zeroW) w := by kernel_rfl
theorem alloc_write {P : Program} (hz : ∀ w, (zeroValue 86).run P w = .ok (.agg zeroW) w) {W : World} {ops : Array Oper} {rest : List Oper} {o : Oper} {a : Act} {Q : Exit → Act → World → Prop} (hgd : o.guard = none) (ho : o.op = .alloc 86) (N : Tmp) (hd : o.dst = some N)
    (h : ∀ g, g = W.heap.size → ∀ w1, X.Blk w1 g zeroW 86 → Below W.heap.size W w1 → wpList P ops Q rest (a.put (some N) (.pointer (some ⟨g, 0, none⟩))) w1) : wpList P ops Q (o :: rest) a W := by
  refine box_event hgd hd (cs := zeroW) (t := 86) ?_ (fun g hg w1 hw hb => by rw [hd]; exact h g hg w1 hw hb)
  unfold execOp
  simp [ho, Instr.alloc, hz, newVar, newRow, Value.cells, Result.andThen]
set_option maxHeartbeats 4000000 in
set_option maxRecDepth 100000 in
theorem disk_keep.calls (p n : Nat) (F G : Nat → Prop) (sv pv lv : Value) (gl gg : Nat) (fg : Int → Option Value) (s : X.DS) (l : List (Nat × List Int)) (w : World) (h : X.PDr w p F G sv pv gl gg fg n s)
    (hl : (Kd.raw 257).R 86 w 0 F lv (l.map X.wcells)) (hl2 : ∀ x ∈ l, X.WOk n x) :
    Calls Try.prog 72 #[.pointer (some ⟨p, 0, none⟩), lv] w fun e w' => e = .returned (.tuple #[]) ∧ X.PDr w' p F G sv lv gl gg fg n { s with pend := l } ∧ X.Turn F w w' := by
  obtain ⟨A, c, rfl⟩ := Kd.R_slice hl
  rw [List.length_map] at *
  have h1 := h.box.cell 1 _ rfl
  have f1 := h.box.free 1
  have c1 := (h.box.set 1 (.slice A l.length c)).cell 2 _ rfl
  have hT := X.Turn.setCell w ⟨p, 1, none⟩ (.slice A l.length c)
  have hm0 := h.reboxed hT (pv' := .slice A l.length c) (s' := { s with pend := l }) (h.box.set 1 (.slice A l.length c)) rfl rfl hl ⟨h.ok.len, h.ok.n1, h.ok.n2, h.ok.u8, hl2, h.ok.ghosts, h.ok.left⟩
  obtain ⟨w1, hrun, hm1, hg1⟩ := hm0.la.clear Try.underlying80 0
  have hmap : ∃ es clock, (w.setCell ⟨p, 1, none⟩ (.slice A l.length c)).heap[gl]? = some (.map es clock) := by
    obtain ⟨D, ⟨es, clock, hb, _⟩, _⟩ := hm0.la
    exact ⟨es, clock, hb⟩
  have hm2 := hm0.mapped hg1 hmap [] fg (by
    have e1 : (fun i => (X.lastIdx [] i).map fun k : Nat => Value.int .i64 (k : Int)) = fun _ => none := rfl
    rw [e1]
    exact hm1) (hm0.gh.move (hg1.block gg hm0.gh.lt (fun e => by injection e with e; exact hm0.ne e.symm))) (X.ghosts_kept hm0 hg1 hm0.fl)
  have HM : Aside0 (X.PDm (l.take 0) w1 p F G sv (.slice A l.length c) gl gg fg n { s with pend := l }) := ⟨hm2⟩
  have HT : Aside0 (X.Turn F w w1) := ⟨(hT.mono (fun k hk => by have e : k = p := hk; rw [e]; exact h.fp)).trans ((X.Turn.grown hg1).mono (fun k hk => by have e : some k = some gl := hk; injection e with e; rw [e]; exact h.fl)) (fun _ hk => .inl hk)⟩
  have HW := Aside0.mk hl2
  have hlen : l.length ≤ 9223372036854775807 := by
    have := (Kd.R_reads' hl).2.2.2.1
    rw [List.length_map] at this
    exact this
  have hform : Aside0 (∀ k, k < l.length → ∃ g, A = some ⟨g, 0, none⟩) := ⟨fun k hk => by
    obtain ⟨g, c', hv, _⟩ := Kd.R_form hl (by rw [List.length_map]; omega)
    injection hv with hv
    exact ⟨g, hv⟩⟩
  clear h hl hl2 hm0 hm1 hg1 hmap hm2 hT
  go_enter Try.func72, Try.ntmps72
  go_wp2_with fail
  clear hrun h1 f1 c1
  go_loopg [16] l.length (fun kq v16 w' => ∃ i : Nat, v16 = .int .i64 (i : Int) ∧ Aside0 (kq + i = l.length) ∧ Aside0 (X.PDm (l.take i) w' p F G sv (.slice A l.length c) gl gg fg n { s with pend := l }) ∧ Aside0 (X.Turn F w w'))
  case atStart => exact ⟨0, rfl, ⟨by omega⟩, HM, HT⟩
  case round =>
    clear HM HT
    obtain ⟨i, rfl, HK, HM, HT⟩ := hrel
    by_cases hlt : i < l.length
    · have q0 : decide ((i : Int) < (l.length : Int)) = true := decide_eq_true (by omega)
      have q00 : decide (i < l.length) = true := decide_eq_true hlt
      obtain ⟨g, rfl⟩ := hform.out i hlt
      obtain ⟨x, hx⟩ : ∃ x, l[i]? = some x := ⟨_, List.getElem?_eq_getElem hlt⟩
      have hxo := HW.out x (List.mem_of_getElem? hx)
      have hrange := X.pend_range HM.out.pd hx
      have HX := Aside0.mk hx
      have HXO := Aside0.mk hxo
      have HRG := Aside0.mk hrange
      have HTK : Aside0 (∀ y ∈ l.take i, X.WOk n y) := ⟨fun y hy => HW.out y (List.mem_of_mem_take hy)⟩
      obtain ⟨cx, hcx⟩ : ∃ cx, cx = X.wcells x := ⟨_, rfl⟩
      have HCX := Aside0.mk hcx
      have HCL : Aside0 (cx.length = 257) := ⟨by rw [hcx]; exact X.wcells_length hxo⟩
      have HC1 : Aside0 (∀ v ∈ cx, v.oneCell' = true) := ⟨by rw [hcx]; exact X.wcells_one x⟩
      rw [← hcx] at HRG
      clear hx hxo hrange hcx
      go_wp2_with (first | ((with_reducible refine gate_ (.load 86 (.tmp 19)) rfl ?_); (refine wpList_load_mid rfl 86 (.tmp 19) rfl g (i * 257) rfl cx _ HRG.out Try.underlying86 rfl (by rw [HCL.out]; exact info_write) ?_)) | ((with_reducible refine gate_ (.alloc 86) rfl ?_); (refine alloc_write zero_write rfl rfl 5 rfl ?_); intro gb hgb w2 hbx hbl; have HBX := Aside0.mk hbx; have HBL := Aside0.mk hbl; have HGB := Aside0.mk hgb; clear hbx hbl hgb) | ((with_reducible refine gate_ (.store 86 (.tmp 5) (.tmp 20)) rfl ?_); (refine X.store_box rfl 86 (.tmp 5) (.tmp 20) rfl gb zeroW cx.toArray rfl rfl HBX.out (by rw [zeroW_size, List.size_toArray, HCL.out]) (by rw [List.size_toArray, HCL.out]; exact info_write) (all_oneCell_toArray HC1.out) ?_); intro w3 hb3 ht3; clear HBX; have HBX := Aside0.mk hb3; have HT3_ := Aside0.mk ht3; clear hb3 ht3))
      rw [HCX.out] at HBX
      have hB3 : Below wr.heap.size wr w3 := HBL.out.trans (HT3_.out.below (fun k hk => by have e : k = gb := hk; rw [e, HGB.out]; exact Nat.le_refl _) HBL.out.size)
      have HM2 := Aside0.mk (HM.out.below hB3)
      have HT2 := Aside0.mk (HT.out.trans (X.Turn.of_below (S := F) hB3) (fun _ hk => .inl hk))
      clear HM HT HBL HT3_ HGB hB3 HRG
      go_wp2_with fail
      refine start_ (n := 8) (S := (fun w' => w'.cell? ⟨p, 2, none⟩ = some (.map (some gl)) ∧ w'.cell? ⟨gb, 0, none⟩ = some (.int .i64 (x.1 : Int)))) (ds := [7]) #[false, false, false, false, false, false, false, false] (by kernel_rfl) rfl rfl ⟨HM2.out.box.cell 2 _ rfl, HBX.out.cell 0 _ rfl⟩ (fun hHeld => ?_)
      have HM3 := Aside0.mk (HM2.out.below (below_drew1 (Below.refl _ _)))
      have HT3 := Aside0.mk (HT2.out.trans (X.Turn.of_below (S := F) (below_drew1 (Below.refl _ _))) (fun _ hk => .inl hk))
      generalize World.drew _ = w4 at *
      clear HM2 HT2 HBX
      refine pure_ (i := 0) (N := some 21) (v := ?_) (a' := ?_) #[true, false, false, false, false, false, false, false] rfl rfl (by kernel_rfl) (fun _ _ _ h => h) (Or.inl ⟨by rfl, ?_⟩) ?_ ?_
      rotate_left
      · intro w'
        go_simp
        with_reducible rfl
      rotate_left
      · simp only [Act.put, List.setIfInBounds_toArray, List.set_cons_zero, List.set_cons_succ, i64_w, i32_w]
        rfl
      refine pure_ (i := 1) (N := some 22) (v := ?_) (a' := ?_) #[true, true, false, false, false, false, false, false] rfl rfl (by kernel_rfl) (fun _ _ _ h => h) (Or.inl ⟨by rfl, ?_⟩) ?_ ?_
      rotate_left
      · intro w'
        go_simp
        with_reducible rfl
      rotate_left
      · simp only [Act.put, List.setIfInBounds_toArray, List.set_cons_zero, List.set_cons_succ, i64_w, i32_w]
        rfl
      refine pure_ (i := 2) (N := some 23) (v := ?_) (a' := ?_) #[true, true, true, false, false, false, false, false] rfl rfl (by kernel_rfl) (fun _ _ _ h => h) (Or.inl ⟨by rfl, ?_⟩) ?_ ?_
      rotate_left
      · intro w'
        go_simp
        with_reducible rfl
      rotate_left
      · simp only [Act.put, List.setIfInBounds_toArray, List.set_cons_zero, List.set_cons_succ, i64_w, i32_w]
        rfl
      refine take_ (i := 3) (N := some 24) (v := ?_) (a' := ?_) #[true, true, true, true, false, false, false, false] rfl rfl (by kernel_rfl) (fun _ _ _ h => h) (Or.inl ⟨by rfl, ?_⟩) hHeld ?_ ?_
      rotate_left
      · intro w' hs_
        obtain ⟨hs0, hs1⟩ := hs_
        go_simp
        with_reducible rfl
      rotate_left
      · simp only [Act.put, List.setIfInBounds_toArray, List.set_cons_zero, List.set_cons_succ, i64_w, i32_w]
        rfl
      refine pure_ (i := 4) (N := some 25) (v := ?_) (a' := ?_) #[true, true, true, true, true, false, false, false] rfl rfl (by kernel_rfl) (fun _ _ _ h => h) (Or.inl ⟨by rfl, ?_⟩) ?_ ?_
      rotate_left
      · intro w'
        go_simp
        with_reducible rfl
      rotate_left
      · simp only [Act.put, List.setIfInBounds_toArray, List.set_cons_zero, List.set_cons_succ, i64_w, i32_w]
        rfl
      refine take_ (i := 5) (N := some 26) (v := ?_) (a' := ?_) #[true, true, true, true, true, true, false, false] rfl rfl (by kernel_rfl) (fun _ _ _ h => h) (Or.inl ⟨by rfl, ?_⟩) hHeld ?_ ?_
      rotate_left
      · intro w' hs_
        obtain ⟨hs0, hs1⟩ := hs_
        go_simp
        with_reducible rfl
      rotate_left
      · simp only [Act.put, List.setIfInBounds_toArray, List.set_cons_zero, List.set_cons_succ, i64_w, i32_w]
        rfl
      refine pure_ (i := 6) (N := some 27) (v := ?_) (a' := ?_) #[true, true, true, true, true, true, true, false] rfl rfl (by kernel_rfl) (fun _ _ _ h => h) (Or.inl ⟨by rfl, ?_⟩) ?_ ?_
      rotate_left
      · intro w'
        go_simp
        with_reducible rfl
      rotate_left
      · simp only [Act.put, List.setIfInBounds_toArray, List.set_cons_zero, List.set_cons_succ, i64_w, i32_w]
        rfl
      refine last_ (i := 7) (N := none) #[true, true, true, true, true, true, true, true] rfl rfl (by kernel_rfl) (by decide) (fun K hK => ?_)
      obtain ⟨w5, hrun5, hm5, hg5⟩ := HM3.out.la.store Try.underlying3 Try.underlying80 (i := (x.1 : Int)) ⟨by omega, by have := HXO.out.1; have := HM3.out.ok.n2; omega⟩ (fun j v hj => X.lastIdx_range HTK.out HM3.out.ok.n2 hj) (.int .i64 (i : Int))
      refine skip_ (w1 := w5) (by rfl) rfl ?_ ?_
      · unfold execOp
        go_simp
        try (rw [hrun5]; rfl)
      have hla5 : X.IMap Try.prog 3 w5 gl (fun j => (X.lastIdx (l.take (i + 1)) j).map fun k : Nat => Value.int .i64 (k : Int)) := by
        have e : (fun j => (X.lastIdx (l.take (i + 1)) j).map fun k : Nat => Value.int .i64 (k : Int)) = fun j => if j = (x.1 : Int) then some (Value.int .i64 (i : Int)) else (X.lastIdx (l.take i) j).map fun k : Nat => Value.int .i64 (k : Int) := by
          funext j
          rw [X.take_snoc HX.out, X.lastIdx_snoc]
          split
          · rw [List.length_take, Nat.min_eq_left (by omega)]; rfl
          · rfl
        rw [e]
        exact hm5
      have HM5 := Aside0.mk (HM3.out.mapped hg5 (X.IMap.is HM3.out.la) (l.take (i + 1)) fg hla5 (HM3.out.gh.move (hg5.block gg HM3.out.gh.lt (fun e => by injection e with e; exact HM3.out.ne e.symm))) (X.ghosts_kept HM3.out hg5 HM3.out.fl))
      have HT5 := Aside0.mk (HT3.out.trans ((X.Turn.grown hg5).mono (S' := F) (fun k hk => by have e : some k = some gl := hk; injection e with e; rw [e]; exact HM3.out.fl)) (fun _ hk => .inl hk))
      clear hrun5 hm5 hg5 hla5 HM3 HT3 hHeld
      refine hK.out _ _ ?_
      clear hK K
      refine done_ (by kernel_rfl) ?_
      go_wp2
      cases gk with
      | zero => exact absurd HK.out (by omega)
      | succ k1 =>
        go_roundg k1
        case measure => omega
        case rel => exact ⟨i + 1, by go_num, ⟨by have := HK.out; omega⟩, HM5, HT5⟩
    · have q0 : decide ((i : Int) < (l.length : Int)) = false := decide_eq_false (by omega)
      have q00 : decide (i < l.length) = false := decide_eq_false hlt
      have HI : Aside0 (l.take i = l) := ⟨List.take_of_length_le (by omega)⟩
      go_wp2
      go_end0
      have h1 := HM.out
      rw [HI.out] at h1
      exact ⟨rfl, h1, HT.out⟩
end Go.Proofs.Ytlbfpjhnpnbikaa.U
