/- Written by uprint.py (ours) for this seat: functions of the translation as Lean functions, and what their calls do. Not trusted: Lean checks it. -/
import Derived.Test.YtbpkjkdbijifbaaUx0
import Derived.Test.YtbpkjkdbijifbaaUx18
import Derived.Test.YtbpkjkdbijifbaaUx21
import Derived.Test.YtbpkjkdbijifbaaUx24
namespace Go.Proofs.Ytbpkjkdbijifbaa.U
open Go.RowKit Go.Proofs.YtbpkjkdbijifbaaW.PrintWords Go.Proofs.YtbpkjkdbijifbaaW.PrintLast Go.Proofs.YtbpkjkdbijifbaaW.PrintMore
attribute [local go_sem] max2_int min2_int max_two min_two max_three min_three max_four min_four   -- for this text's walks alone
set_option linter.unusedVariables false
set_option linter.unusedSimpArgs false

-- GIVEN: function 44 ((*undercroft/undercroftref02.Disk).Settle)
theorem info_b : (Try.prog.info? 4).map (fun i => (i.zero, i.size, i.bytes)) = some (some (.bool false), 1, 1) := by kernel_rfl
/-- Is write number i gone behind the first k? -/
def goneB (l : List (Nat × List Int)) (bits : List Int) (k i : Nat) : Bool := match l[i]? with
  | some y => (match X.newTo l bits k (y.1 : Int) with
    | some m => decide (i ≤ m)
    | none => false)
  | none => false
def goneM (l : List (Nat × List Int)) (bits : List Int) (k j : Nat) : List Bool := (List.range l.length).map fun i => if i < j then goneB l bits (k + 1) i else goneB l bits k i
theorem goneM_len (l : List (Nat × List Int)) (bits : List Int) (k j : Nat) : (goneM l bits k j).length = l.length := by simp [goneM]
theorem goneM_get (l : List (Nat × List Int)) (bits : List Int) (k j : Nat) {i : Nat} (hi : i < l.length) : (goneM l bits k j)[i]? = some (if i < j then goneB l bits (k + 1) i else goneB l bits k i) := by
  unfold goneM
  rw [List.getElem?_map, List.getElem?_range hi]
  rfl
theorem gone_hi (l : List (Nat × List Int)) (bits : List Int) {k i : Nat} (h : k ≤ i) : goneB l bits k i = false := by
  unfold goneB
  split
  · rename_i y hy
    split
    · rename_i m hm
      have := (X.newTo_some (i := y.1) hm).1
      exact decide_eq_false (by omega)
    · rfl
  · rfl
theorem gone_no {l : List (Nat × List Int)} {bits : List Int} {k : Nat} (h : X.bitAt bits k = false) (i : Nat) : goneB l bits (k + 1) i = goneB l bits k i := by
  have e : ∀ j, X.newTo l bits (k + 1) j = X.newTo l bits k j := fun j => by
    rw [X.newTo]
    split
    · rw [if_neg (by rw [h]; decide)]
    · rfl
  unfold goneB
  simp only [e]
theorem gone_yes {l : List (Nat × List Int)} {bits : List Int} {k i : Nat} {x y : Nat × List Int} (hx : l[k]? = some x) (h : X.bitAt bits k = true) (hy : l[i]? = some y) (hi : i ≤ k) : goneB l bits (k + 1) i = (goneB l bits k i || decide (y.1 = x.1)) := by
  unfold goneB
  rw [hy]
  simp only
  rw [X.newTo]
  simp only [hx]
  rw [if_pos h]
  by_cases hyx : y.1 = x.1
  · rw [if_pos (show (y.1 : Int) = (x.1 : Int) from by rw [hyx]), decide_eq_true hyx, Bool.or_true]
    exact decide_eq_true hi
  · rw [if_neg (show ¬ (y.1 : Int) = (x.1 : Int) from fun e => hyx (Int.ofNat.inj e)), decide_eq_false hyx, Bool.or_false]
theorem goneM_zero (l : List (Nat × List Int)) (bits : List Int) : goneM l bits 0 0 = List.replicate l.length false := by
  apply List.ext_getElem?
  intro i
  by_cases hi : i < l.length
  · rw [goneM_get l bits 0 0 hi, if_neg (by omega), gone_hi l bits (Nat.zero_le i), List.getElem?_replicate, if_pos hi]
  · rw [List.getElem?_eq_none (by rw [goneM_len]; omega), List.getElem?_eq_none (by rw [List.length_replicate]; omega)]
theorem goneM_skip {l : List (Nat × List Int)} {bits : List Int} {k : Nat} (h : X.bitAt bits k = false) : goneM l bits (k + 1) 0 = goneM l bits k 0 := by
  unfold goneM
  congr 1
  funext i
  rw [if_neg (by omega), if_neg (by omega), gone_no h]
theorem goneM_next (l : List (Nat × List Int)) (bits : List Int) (k : Nat) : goneM l bits (k + 1) 0 = goneM l bits k (k + 1) := by
  unfold goneM
  congr 1
  funext i
  rw [if_neg (by omega)]
  split
  · rfl
  · rw [gone_hi l bits (by omega), gone_hi l bits (by omega)]
theorem goneM_set {l : List (Nat × List Int)} {bits : List Int} {k i : Nat} {x y : Nat × List Int} (hx : l[k]? = some x) (h : X.bitAt bits k = true) (hy : l[i]? = some y) (hi : i ≤ k) : (goneM l bits k i).set i (goneB l bits k i || decide (y.1 = x.1)) = goneM l bits k (i + 1) := by
  have hil := (List.getElem?_eq_some_iff.1 hy).1
  apply List.ext_getElem?
  intro j
  by_cases hj : j < l.length
  · rw [goneM_get l bits k (i + 1) hj, List.getElem?_set]
    by_cases hij : i = j
    · subst hij
      rw [if_pos rfl, if_pos (by rw [goneM_len]; exact hj), if_pos (by omega), gone_yes hx h hy hi]
    · rw [if_neg hij, goneM_get l bits k i hj]
      by_cases h1 : j < i
      · rw [if_pos h1, if_pos (by omega)]
      · rw [if_neg h1, if_neg (by omega)]
  · rw [List.getElem?_eq_none (by rw [List.length_set, goneM_len]; omega), List.getElem?_eq_none (by rw [goneM_len]; omega)]
theorem gone_stays {l : List (Nat × List Int)} {bits : List Int} {i : Nat} {y : Nat × List Int} (hy : l[i]? = some y) : goneB l bits l.length i = !X.staysB l bits i y := by
  unfold goneB X.staysB
  rw [hy]
  simp only
  split
  · rename_i m hm
    simp only [hm]
    by_cases h : i ≤ m
    · rw [decide_eq_true h, decide_eq_false (by omega)]; rfl
    · rw [decide_eq_false h, decide_eq_true (by omega)]; rfl
  · rename_i hm
    simp only [hm]
    rfl
theorem leftTo_next {l : List (Nat × List Int)} {bits : List Int} {k : Nat} {x : Nat × List Int} (hx : l[k]? = some x) : X.leftTo l bits (k + 1) = if X.staysB l bits k x = true then X.leftTo l bits k ++ [x] else X.leftTo l bits k := by
  rw [X.leftTo]
  simp only [hx]
theorem settle_next {b : List Int} {l : List (Nat × List Int)} {bits : List Int} {k : Nat} {x : Nat × List Int} (hx : l[k]? = some x) : X.settleTo b l bits (k + 1) = if X.bitAt bits k = true then X.lay (X.settleTo b l bits k) (x.1 * 256) x.2 else X.settleTo b l bits k := by
  rw [X.settleTo]
  simp only [hx, Nat.mul_comm]
set_option maxHeartbeats 8000000 in
set_option maxRecDepth 100000 in
theorem undercroftref02_Disk_Settle.calls (w0 w : World) (L : List X.Res) (p n : Nat) (s : X.DS) (A : Option Addr) (cb : Nat) (bits : List Int) (h : X.Lies w0 w (.rdisk p n s :: L)) (hr : X.Rd w0 L fun w' => (Kd.int .u8).C w' A bits.length bits) (hcb : bits.length ≤ cb) (hpl : s.pend.length ≤ 500000000000) :
    Calls Try.prog 44 #[.pointer (some ⟨p, 0, none⟩), .slice A bits.length cb] w fun e w' => e = .returned (.tuple #[]) ∧ X.Lies w0 w' (.rdisk p n (s.settle bits) :: L) := by
  have HS := Aside0.mk h
  obtain ⟨v0, v1, v2, hok, hs⟩ := h.rdisk
  have h3 := (hs.boxed 0 rfl).cell 3 _ rfl
  have h4 := (hs.boxed 0 rfl).cell 4 _ rfl
  rcases hbl : (s.set && decide (s.left = 0)) with _ | _
  · have hset : X.DS.settle s bits = { s with bytes := X.settleTo s.bytes s.pend bits s.pend.length, pend := X.leftTo s.pend bits s.pend.length } := by unfold X.DS.settle; rw [hbl]; rfl
    obtain ⟨O, hr0⟩ := hs.rowed 1 rfl
    obtain ⟨g0, c0, e0, -⟩ := Kd.R_form hr0 (by rw [hok.len]; have := hok.n1; omega)
    subst e0
    obtain ⟨hC0, hc0, -⟩ := hs.rowC 1 rfl
    have hbl0 : s.bytes.length = 256 * n := hok.len
    rw [hbl0] at hc0 hC0 hs
    obtain ⟨A1, c1, e1, hc1, hA1⟩ := hs.wform 2 rfl
    subst e1
    have h1 := (hs.boxed 0 rfl).cell 1 _ rfl
    have hn2 := hok.n2
    have HOK := Aside0.mk hok
    have HA1 := Aside0.mk hA1
    have HW := Aside0.mk hs
    have HRB := Aside0.mk hr
    have HST := Aside0.mk hset
    have qf : s.set = false ∨ (s.set = true ∧ decide (s.left = 0) = false) := by
      cases hst : s.set with
      | false => exact .inl rfl
      | true => rw [hst] at hbl; exact .inr ⟨rfl, hbl⟩
    clear hs hok hr0 hC0 hA1 h hr hset hbl HS
    obtain ⟨st, hst⟩ : ∃ st, st = s.set := ⟨_, rfl⟩
    obtain ⟨sl, hsl⟩ : ∃ sl, sl = s.left := ⟨_, rfl⟩
    rw [← hst] at h3 HW qf
    rw [← hsl] at h4 HW qf
    have HSL := Aside0.mk (And.intro hst hsl)
    clear hst hsl
    go_enter Try.func44, Try.ntmps44
    have ng : st = false ∨ (st = true ∧ ((sl : Int) == 0) = false ∧ decide (sl = 0) = false) := qf.imp id (fun h => ⟨h.1, beq_eq_false_iff_ne.mpr (fun e => by have := of_decide_eq_false h.2; omega), h.2⟩)
    clear qf
    rcases ng with rfl | ⟨rfl, qg, qf⟩
    all_goals (
      have HSB : Aside0 (∃ st', s.set = st' ∧ X.Lies w0 w (.box p #[.slice (some ⟨g0, 0, none⟩) (256 * n) c0, .slice A1 s.pend.length c1, v2, .bool st', .int .i64 (sl : Int)] 42 :: .row (Kd.int .u8) 5 (.slice (some ⟨g0, 0, none⟩) (256 * n) c0) s.bytes :: .wrow (.slice A1 s.pend.length c1) s.pend :: .wrow v2 s.ghosts :: L)) := ⟨_, HSL.out.1.symm, HW.out⟩
      have HSLL : Aside0 (sl = s.left) := ⟨HSL.out.2⟩
      clear HW HSL
      go_wp2_with ((with_reducible refine gate_ (.makeSlice 79 (.tmp 24) (.tmp 24)) rfl ?_); (refine Kd.R_make Kd.bool (w0 := w) w.heap.size 4 rfl rfl 79 (.tmp 24) (.tmp 24) rfl (s.pend.length : Int) rfl rfl Try.underlying79 (.bool false) 1 info_b rfl (by decide) (by omega) false (ok := fun _ => True) (okp := fun _ => False) rfl (fun _ h => h.elim) trivial (by omega) (by omega) (Below.refl _ _) (Nat.le_refl _) ?_); intro v9 w1 hr1 hb1 hg1 hv1; rw [Int.toNat_natCast] at hr1; have HB1 := Aside0.mk hb1; have HR1 := Aside0.mk hr1; obtain ⟨Ag, cg, e1⟩ := Kd.R_slice hr1; rw [List.length_replicate] at e1; subst e1; clear hr1 hb1 hg1 hv1)
      obtain ⟨st', HSS, hw⟩ := HSB.out
      have HAG : Aside0 (0 < s.pend.length → ∃ g, Ag = some ⟨g, 0, none⟩) := ⟨fun h => by obtain ⟨g, c, e, -⟩ := Kd.R_form HR1.out (by rw [List.length_replicate]; exact h); injection e with e1 e2 e3; exact ⟨g, e1⟩⟩
      have HS1 := Aside0.mk ((hw.newRow (d := Kd.bool) HB1.out HR1.out).perm [1, 2, 3, 4, 0] 5 (by decide) (by decide))
      have HSET := Aside0.mk HSS
      clear HB1 HR1 hw HSS HSB h1 h3 h4
      go_loopg [5, 6] s.pend.length (fun gk v5_ v6_ w' => ∃ k : Nat, v5_ = .int .i64 (k : Int) ∧ Aside0 (gk + k = s.pend.length) ∧ Aside0 (X.Lies w0 w' (.box p #[.slice (some ⟨g0, 0, none⟩) (256 * n) c0, .slice A1 s.pend.length c1, v2, .bool st', .int .i64 (sl : Int)] 42 :: .row (Kd.int .u8) 5 (.slice (some ⟨g0, 0, none⟩) (256 * n) c0) (X.settleTo s.bytes s.pend bits k) :: .wrow (.slice A1 s.pend.length c1) s.pend :: .wrow v2 s.ghosts :: .row Kd.bool 4 (.slice Ag s.pend.length cg) (goneM s.pend bits k 0) :: L)))
      case atStart => exact ⟨0, rfl, ⟨by omega⟩, ⟨by rw [goneM_zero]; exact HS1.out⟩⟩
      case round =>
        clear HS1
        obtain ⟨k, rfl, HK, HS5⟩ := hrel
        have f1_ := (HS5.out.boxed 0 rfl).cell 1 _ rfl
        by_cases hlt : k < s.pend.length
        · have q3 : decide ((k : Int) < (s.pend.length : Int)) = true := decide_eq_true (by omega)
          have q33 : decide (k < s.pend.length) = true := decide_eq_true hlt
          obtain ⟨x, hx⟩ : ∃ x, s.pend[k]? = some x := ⟨_, List.getElem?_eq_getElem hlt⟩
          obtain ⟨g3, rfl⟩ := HA1.out (by omega)
          obtain ⟨gg, rfl⟩ := HAG.out (by omega)
          have hxw := HOK.out.pend x (List.mem_of_getElem? hx)
          have hxl : x.2.length = 256 := hxw.2.1
          have hx1 : x.1 < n := hxw.1
          have HSN := Aside0.mk (settle_next (b := s.bytes) (bits := bits) hx)
          have HBN : Aside0 ((X.settleTo s.bytes s.pend bits k).length = 256 * n ∧ X.u8all (X.settleTo s.bytes s.pend bits k) = true) := ⟨X.settleTo_ok HOK.out.len HOK.out.u8 HOK.out.pend bits k⟩
          obtain ⟨B, hB⟩ : ∃ B, B = X.settleTo s.bytes s.pend bits k := ⟨_, rfl⟩
          rw [← hB] at HS5 HSN HBN
          have HBC := Aside0.mk (undercroftref02_Bit.calls A cb bits (k : Int) (X.bitAt bits k) wr (HRB.out wr HS5.out.tail.tail.tail.tail.tail) hcb (rbit_f bits k (by omega)))
          have e1_ : wrap64 ((x.1 : Int) * 256) = (x.1 : Int) * 256 := by unfold wrap64; omega
          have s1_ : (0 : Int) ≤ (x.1 : Int) * 256 := by omega
          have s2_ : (x.1 : Int) * 256 ≤ 256 * (n : Int) := by omega
          have s4_ : ((x.1 : Int) * 256).toNat = x.1 * 256 := by omega
          have s3_ : ¬ c0 = x.1 * 256 := by omega
          clear hxw hB
          go_wp2_with fail
          refine HBC.out.mono ?_
          rintro e w6 ⟨rfl, hd⟩
          have HS6 := Aside0.mk (HS5.out.grow hd.below)
          clear HS5 HBC hd f1_
          rcases hbit : X.bitAt bits k with _ | _
          · go_wp2_with fail
            cases gk with
            | zero => exact absurd HK.out (by omega)
            | succ k1 =>
              go_roundg k1
              case measure => omega
              case rel => exact ⟨k + 1, by go_num, ⟨by have := HK.out; omega⟩, ⟨by rw [HSN.out, if_neg (by rw [hbit]; decide), goneM_skip hbit]; exact HS6.out⟩⟩
          · obtain ⟨g4, o4, c4, k0, k1, hc4, hC4⟩ := HS6.out.wat 2 rfl hx
            rw [hxl] at k1 hc4 hC4
            have HX := Aside0.mk (And.intro hc4 hC4)
            have HS5 := HS6
            clear hc4 hC4 HS6
            go_wp2_with fail
            refine start_ (n := 23) (S := (fun w' => w'.cell? ⟨p, 0, none⟩ = some (.slice (some ⟨g0, 0, none⟩) (256 * n) c0) ∧ w'.cell? ⟨p, 1, none⟩ = some (.slice (some ⟨g3, 0, none⟩) s.pend.length c1) ∧ w'.cell? ⟨g3, k * 2, none⟩ = some (.int .i64 (x.1 : Int)) ∧ w'.cell? ⟨g3, k * 2 + 1, none⟩ = some (.slice (some ⟨g4, o4, none⟩) 256 c4))) (ds := [22]) #[false, false, false, false, false, false, false, false, false, false, false, false, false, false, false, false, false, false, false, false, false, false, false] (by kernel_rfl) rfl rfl ⟨(HS5.out.boxed 0 rfl).cell 0 _ rfl, (HS5.out.boxed 0 rfl).cell 1 _ rfl, k0, k1⟩ (fun hHeld => ?_)
            have HSa := Aside0.mk (HS5.out.drew)
            have HCa := Aside0.mk (Kd.C_below HX.out.2 (below_drew1 (Below.refl _ _)))
            generalize World.drew _ = wa at *
            clear HS5
            refine pure_ (i := 0) (N := some 39) (v := ?_) (a' := ?_) #[true, false, false, false, false, false, false, false, false, false, false, false, false, false, false, false, false, false, false, false, false, false, false] rfl rfl (by kernel_rfl) (fun _ _ _ h => h) (Or.inl ⟨by rfl, ?_⟩) ?_ ?_
            rotate_left
            · intro w' 
              go_simp
              with_reducible rfl
            rotate_left
            · simp only [Act.put, List.setIfInBounds_toArray, List.set_cons_zero, List.set_cons_succ, i64_w, i32_w]
              rfl
            refine pure_ (i := 1) (N := some 40) (v := ?_) (a' := ?_) #[true, true, false, false, false, false, false, false, false, false, false, false, false, false, false, false, false, false, false, false, false, false, false] rfl rfl (by kernel_rfl) (fun _ _ _ h => h) (Or.inl ⟨by rfl, ?_⟩) ?_ ?_
            rotate_left
            · intro w' 
              go_simp
              with_reducible rfl
            rotate_left
            · simp only [Act.put, List.setIfInBounds_toArray, List.set_cons_zero, List.set_cons_succ, i64_w, i32_w]
              rfl
            refine pure_ (i := 2) (N := some 41) (v := ?_) (a' := ?_) #[true, true, true, false, false, false, false, false, false, false, false, false, false, false, false, false, false, false, false, false, false, false, false] rfl rfl (by kernel_rfl) (fun _ _ _ h => h) (Or.inl ⟨by rfl, ?_⟩) ?_ ?_
            rotate_left
            · intro w' 
              go_simp
              with_reducible rfl
            rotate_left
            · simp only [Act.put, List.setIfInBounds_toArray, List.set_cons_zero, List.set_cons_succ, i64_w, i32_w]
              rfl
            refine take_ (i := 3) (N := some 42) (v := ?_) (a' := ?_) #[true, true, true, true, false, false, false, false, false, false, false, false, false, false, false, false, false, false, false, false, false, false, false] rfl rfl (by kernel_rfl) (fun _ _ _ h => h) (Or.inl ⟨by rfl, ?_⟩) hHeld ?_ ?_
            rotate_left
            · intro w' hs_
              obtain ⟨hs0, hs1, hs2, hs3⟩ := hs_
              go_simp
              with_reducible rfl
            rotate_left
            · simp only [Act.put, List.setIfInBounds_toArray, List.set_cons_zero, List.set_cons_succ, i64_w, i32_w]
              rfl
            refine pure_ (i := 4) (N := some 43) (v := ?_) (a' := ?_) #[true, true, true, true, true, false, false, false, false, false, false, false, false, false, false, false, false, false, false, false, false, false, false] rfl rfl (by kernel_rfl) (fun _ _ _ h => h) (Or.inl ⟨by rfl, ?_⟩) ?_ ?_
            rotate_left
            · intro w' 
              go_simp
              with_reducible rfl
            rotate_left
            · simp only [Act.put, List.setIfInBounds_toArray, List.set_cons_zero, List.set_cons_succ, i64_w, i32_w]
              rfl
            refine pure_ (i := 5) (N := some 44) (v := ?_) (a' := ?_) #[true, true, true, true, true, true, false, false, false, false, false, false, false, false, false, false, false, false, false, false, false, false, false] rfl rfl (by kernel_rfl) (fun _ _ _ h => h) (Or.inl ⟨by rfl, ?_⟩) ?_ ?_
            rotate_left
            · intro w' 
              go_simp
              with_reducible rfl
            rotate_left
            · simp only [Act.put, List.setIfInBounds_toArray, List.set_cons_zero, List.set_cons_succ, i64_w, i32_w]
              rfl
            refine pure_ (i := 6) (N := some 45) (v := ?_) (a' := ?_) #[true, true, true, true, true, true, true, false, false, false, false, false, false, false, false, false, false, false, false, false, false, false, false] rfl rfl (by kernel_rfl) (fun _ _ _ h => h) (Or.inl ⟨by rfl, ?_⟩) ?_ ?_
            rotate_left
            · intro w' 
              go_simp
              with_reducible rfl
            rotate_left
            · simp only [Act.put, List.setIfInBounds_toArray, List.set_cons_zero, List.set_cons_succ, i64_w, i32_w]
              rfl
            refine take_ (i := 7) (N := some 46) (v := ?_) (a' := ?_) #[true, true, true, true, true, true, true, true, false, false, false, false, false, false, false, false, false, false, false, false, false, false, false] rfl rfl (by kernel_rfl) (fun _ _ _ h => h) (Or.inl ⟨by rfl, ?_⟩) hHeld ?_ ?_
            rotate_left
            · intro w' hs_
              obtain ⟨hs0, hs1, hs2, hs3⟩ := hs_
              go_simp
              with_reducible rfl
            rotate_left
            · simp only [Act.put, List.setIfInBounds_toArray, List.set_cons_zero, List.set_cons_succ, i64_w, i32_w]
              rfl
            refine pure_ (i := 8) (N := some 47) (v := ?_) (a' := ?_) #[true, true, true, true, true, true, true, true, true, false, false, false, false, false, false, false, false, false, false, false, false, false, false] rfl rfl (by kernel_rfl) (fun _ _ _ h => h) (Or.inl ⟨by rfl, ?_⟩) ?_ ?_
            rotate_left
            · intro w' 
              go_simp
              with_reducible rfl
            rotate_left
            · simp only [Act.put, List.setIfInBounds_toArray, List.set_cons_zero, List.set_cons_succ, i64_w, i32_w]
              rfl
            refine pure_ (i := 9) (N := some 48) (v := ?_) (a' := ?_) #[true, true, true, true, true, true, true, true, true, true, false, false, false, false, false, false, false, false, false, false, false, false, false] rfl rfl (by kernel_rfl) (fun _ _ _ h => h) (Or.inl ⟨by rfl, ?_⟩) ?_ ?_
            rotate_left
            · intro w' 
              go_simp
              with_reducible rfl
            rotate_left
            · simp only [Act.put, List.setIfInBounds_toArray, List.set_cons_zero, List.set_cons_succ, i64_w, i32_w]
              rfl
            refine pure_ (i := 10) (N := some 49) (v := ?_) (a' := ?_) #[true, true, true, true, true, true, true, true, true, true, true, false, false, false, false, false, false, false, false, false, false, false, false] rfl rfl (by kernel_rfl) (fun _ _ _ h => h) (Or.inl ⟨by rfl, ?_⟩) ?_ ?_
            rotate_left
            · intro w' 
              go_simp
              with_reducible rfl
            rotate_left
            · simp only [Act.put, List.setIfInBounds_toArray, List.set_cons_zero, List.set_cons_succ, i64_w, i32_w]
              rfl
            refine take_ (i := 11) (N := some 50) (v := .int .i64 (x.1 : Int)) (a' := ?_) #[true, true, true, true, true, true, true, true, true, true, true, true, false, false, false, false, false, false, false, false, false, false, false] rfl rfl (by kernel_rfl) (fun _ _ _ h => h) (Or.inl ⟨by rfl, ?_⟩) hHeld ?_ ?_
            · intro w' hs_
              obtain ⟨hs0, hs1, hs2, hs3⟩ := hs_
              exact (by go_simp; done)
            rotate_left
            · simp only [Act.put, List.setIfInBounds_toArray, List.set_cons_zero, List.set_cons_succ, i64_w, i32_w]
              rfl
            refine pure_ (i := 12) (N := some 51) (v := ?_) (a' := ?_) #[true, true, true, true, true, true, true, true, true, true, true, true, true, false, false, false, false, false, false, false, false, false, false] rfl rfl (by kernel_rfl) (fun _ _ _ h => h) (Or.inl ⟨by rfl, ?_⟩) ?_ ?_
            rotate_left
            · intro w' 
              go_simp
              with_reducible rfl
            rotate_left
            · simp only [Act.put, List.setIfInBounds_toArray, List.set_cons_zero, List.set_cons_succ, i64_w, i32_w]
              rfl
            refine pure_ (i := 13) (N := some 52) (v := ?_) (a' := ?_) #[true, true, true, true, true, true, true, true, true, true, true, true, true, true, false, false, false, false, false, false, false, false, false] rfl rfl (by kernel_rfl) (fun _ _ _ h => h) (Or.inl ⟨by rfl, ?_⟩) ?_ ?_
            rotate_left
            · intro w' 
              go_simp
              with_reducible rfl
            rotate_left
            · simp only [Act.put, List.setIfInBounds_toArray, List.set_cons_zero, List.set_cons_succ, i64_w, i32_w]
              rfl
            refine pure_ (i := 14) (N := some 53) (v := ?_) (a' := ?_) #[true, true, true, true, true, true, true, true, true, true, true, true, true, true, true, false, false, false, false, false, false, false, false] rfl rfl (by kernel_rfl) (fun _ _ _ h => h) (Or.inl ⟨by rfl, ?_⟩) ?_ ?_
            rotate_left
            · intro w' 
              go_simp
              with_reducible rfl
            rotate_left
            · simp only [Act.put, List.setIfInBounds_toArray, List.set_cons_zero, List.set_cons_succ, i64_w, i32_w]
              rfl
            refine pure_ (i := 15) (N := some 54) (v := ?_) (a' := ?_) #[true, true, true, true, true, true, true, true, true, true, true, true, true, true, true, true, false, false, false, false, false, false, false] rfl rfl (by kernel_rfl) (fun _ _ _ h => h) (Or.inl ⟨by rfl, ?_⟩) ?_ ?_
            rotate_left
            · intro w' 
              go_simp
              with_reducible rfl
            rotate_left
            · simp only [Act.put, List.setIfInBounds_toArray, List.set_cons_zero, List.set_cons_succ, i64_w, i32_w]
              rfl
            refine pure_ (i := 16) (N := some 55) (v := ?_) (a' := ?_) #[true, true, true, true, true, true, true, true, true, true, true, true, true, true, true, true, true, false, false, false, false, false, false] rfl rfl (by kernel_rfl) (fun _ _ _ h => h) (Or.inl ⟨by rfl, ?_⟩) ?_ ?_
            rotate_left
            · intro w' 
              go_simp
              with_reducible rfl
            rotate_left
            · simp only [Act.put, List.setIfInBounds_toArray, List.set_cons_zero, List.set_cons_succ, i64_w, i32_w]
              rfl
            refine take_ (i := 17) (N := some 56) (v := ?_) (a' := ?_) #[true, true, true, true, true, true, true, true, true, true, true, true, true, true, true, true, true, true, false, false, false, false, false] rfl rfl (by kernel_rfl) (fun _ _ _ h => h) (Or.inl ⟨by rfl, ?_⟩) hHeld ?_ ?_
            rotate_left
            · intro w' hs_
              obtain ⟨hs0, hs1, hs2, hs3⟩ := hs_
              go_simp
              with_reducible rfl
            rotate_left
            · simp only [Act.put, List.setIfInBounds_toArray, List.set_cons_zero, List.set_cons_succ, i64_w, i32_w]
              rfl
            refine pure_ (i := 18) (N := some 57) (v := ?_) (a' := ?_) #[true, true, true, true, true, true, true, true, true, true, true, true, true, true, true, true, true, true, true, false, false, false, false] rfl rfl (by kernel_rfl) (fun _ _ _ h => h) (Or.inl ⟨by rfl, ?_⟩) ?_ ?_
            rotate_left
            · intro w' 
              go_simp
              with_reducible rfl
            rotate_left
            · simp only [Act.put, List.setIfInBounds_toArray, List.set_cons_zero, List.set_cons_succ, i64_w, i32_w]
              rfl
            refine pure_ (i := 19) (N := some 58) (v := ?_) (a' := ?_) #[true, true, true, true, true, true, true, true, true, true, true, true, true, true, true, true, true, true, true, true, false, false, false] rfl rfl (by kernel_rfl) (fun _ _ _ h => h) (Or.inl ⟨by rfl, ?_⟩) ?_ ?_
            rotate_left
            · intro w' 
              go_simp
              with_reducible rfl
            rotate_left
            · simp only [Act.put, List.setIfInBounds_toArray, List.set_cons_zero, List.set_cons_succ, i64_w, i32_w]
              rfl
            refine pure_ (i := 20) (N := some 59) (v := ?_) (a' := ?_) #[true, true, true, true, true, true, true, true, true, true, true, true, true, true, true, true, true, true, true, true, true, false, false] rfl rfl (by kernel_rfl) (fun _ _ _ h => h) (Or.inl ⟨by rfl, ?_⟩) ?_ ?_
            rotate_left
            · intro w' 
              go_simp
              with_reducible rfl
            rotate_left
            · simp only [Act.put, List.setIfInBounds_toArray, List.set_cons_zero, List.set_cons_succ, i64_w, i32_w]
              rfl
            refine take_ (i := 21) (N := some 60) (v := .slice (some ⟨g4, o4, none⟩) 256 c4) (a' := ?_) #[true, true, true, true, true, true, true, true, true, true, true, true, true, true, true, true, true, true, true, true, true, true, false] rfl rfl (by kernel_rfl) (fun _ _ _ h => h) (Or.inl ⟨by rfl, ?_⟩) hHeld ?_ ?_
            · intro w' hs_
              obtain ⟨hs0, hs1, hs2, hs3⟩ := hs_
              exact (by go_simp; done)
            rotate_left
            · simp only [Act.put, List.setIfInBounds_toArray, List.set_cons_zero, List.set_cons_succ, i64_w, i32_w]
              rfl
            refine last_ (i := 22) (N := some 61) #[true, true, true, true, true, true, true, true, true, true, true, true, true, true, true, true, true, true, true, true, true, true, true] rfl rfl (by kernel_rfl) (by decide) (fun K hK => ?_)
            obtain ⟨ok, hR, hfr, hadd⟩ := (HSa.out.perm [1, 0, 2, 3] 4 (by decide) (by decide)).grown1
            refine X.copy_step (P := Try.prog) (w0 := wa) .u8 0 (by rfl) rfl (.tmp 52) (.tmp 60) 22 22 5 rfl Try.underlying22 (by obtain ⟨i, hi, _, hs, _⟩ := info_parts info5; rw [hi]; exact congrArg some hs) g0 (256 * n) c0 (x.1 * 256) _ _ (some ⟨g4, o4, none⟩) 256 _ B x.2 ok (by rfl) (by rfl) hR HCa.out (by omega) (by omega) (Below.refl 0 wa) (Nat.zero_le _) ?_
            intro w6 hr6 hb6 hg6
            have HS6 := Aside0.mk ((hadd hr6 hg6).perm [1, 0, 2, 3] 4 (by decide) (by decide))
            clear hr6 hb6 hg6 hadd hR hfr HSa HCa hHeld
            refine hK.out _ _ ?_
            clear hK K
            refine done_ (by kernel_rfl) ?_
            have HBV : Aside0 (X.lay B (x.1 * 256) x.2 = X.settleTo s.bytes s.pend bits (k + 1)) := ⟨by rw [HSN.out, if_pos hbit]⟩
            rw [HBV.out] at HS6
            clear HSN HBV HBN HX k0 k1
            obtain ⟨B2, hB2⟩ : ∃ B2, B2 = X.settleTo s.bytes s.pend bits (k + 1) := ⟨_, rfl⟩
            rw [← hB2] at HS6
            have HB2 := Aside0.mk hB2
            clear hB2
            obtain ⟨ko, rfl⟩ : ∃ ko, gk = ko + 1 := ⟨gk - 1, by have := HK.out; omega⟩
            go_wp2_with fail
            go_loopg [6] (k + 1) (fun gq v6_ w' => ∃ i : Nat, v6_ = .int .i64 (i : Int) ∧ Aside0 (gq + i = k + 1) ∧ Aside0 (X.Lies w0 w' (.box p #[.slice (some ⟨g0, 0, none⟩) (256 * n) c0, .slice (some ⟨g3, 0, none⟩) s.pend.length c1, v2, .bool st', .int .i64 (sl : Int)] 42 :: .row (Kd.int .u8) 5 (.slice (some ⟨g0, 0, none⟩) (256 * n) c0) B2 :: .wrow (.slice (some ⟨g3, 0, none⟩) s.pend.length c1) s.pend :: .wrow v2 s.ghosts :: .row Kd.bool 4 (.slice (some ⟨gg, 0, none⟩) s.pend.length cg) (goneM s.pend bits k i) :: L)))
            case atStart => exact ⟨0, rfl, ⟨by omega⟩, HS6⟩
            case round =>
              clear HS6
              obtain ⟨i, rfl, HI, HS5⟩ := hrel
              by_cases hik : i ≤ k
              · have q4 : decide ((i : Int) ≤ (k : Int)) = true := decide_eq_true (by omega)
                have q44 : decide (i ≤ k) = true := decide_eq_true hik
                have hil : i < s.pend.length := by omega
                obtain ⟨y, hy⟩ : ∃ y, s.pend[i]? = some y := ⟨_, List.getElem?_eq_getElem hil⟩
                have hgm := goneM_get s.pend bits k i hil
                rw [if_neg (Nat.lt_irrefl i)] at hgm
                obtain ⟨c0_, c00_⟩ := HS5.out.cellRow (enc := Value.bool) (h1 := fun _ => rfl) 4 rfl hgm
                obtain ⟨_, _, _, x0_, -, -, -⟩ := HS5.out.wat 2 rfl hx
                obtain ⟨_, _, _, y0_, -, -, -⟩ := HS5.out.wat 2 rfl hy
                have HMS := Aside0.mk (goneM_set hx hbit hy hik)
                obtain ⟨gi, hgi⟩ : ∃ gi, gi = goneB s.pend bits k i := ⟨_, rfl⟩
                rw [← hgi] at c0_ HMS
                obtain ⟨M, hM⟩ : ∃ M, M = goneM s.pend bits k i := ⟨_, rfl⟩
                rw [← hM] at HS5 HMS
                have qd : ((y.1 : Int) == (x.1 : Int)) = decide (y.1 = x.1) := by
                  by_cases h : y.1 = x.1
                  · rw [h]; simp
                  · rw [decide_eq_false h]; exact beq_eq_false_iff_ne.mpr (by omega)
                clear hgm hgi hM
                cases gi with
                | true =>
                  go_wp2_with fail
                  refine start_ (n := 27) (S := (fun w' => w'.cell? ⟨gg, i, none⟩ = some (.bool true) ∧ w'.cell? ⟨p, 1, none⟩ = some (.slice (some ⟨g3, 0, none⟩) s.pend.length c1) ∧ w'.cell? ⟨g3, i * 2, none⟩ = some (.int .i64 (y.1 : Int)) ∧ w'.cell? ⟨g3, k * 2, none⟩ = some (.int .i64 (x.1 : Int)))) (ds := [26]) #[false, false, false, false, false, false, false, false, false, false, false, false, false, false, false, false, false, false, false, false, false, false, false, false, false, false, false] (by kernel_rfl) rfl rfl ⟨c0_, (HS5.out.boxed 0 rfl).cell 1 _ rfl, y0_, x0_⟩ (fun hHeld => ?_)
                  have HSa := Aside0.mk (HS5.out.drew)
                  have HCD := Aside0.mk (And.intro (show (World.drew _).cell? ⟨gg, i, none⟩ = some (.bool true) from c0_) (show (World.drew _).frozen? ⟨gg, i, none⟩ = false from c00_))
                  generalize World.drew _ = wa at *
                  clear HS5
                  refine pure_ (i := 0) (N := some 67) (v := ?_) (a' := ?_) #[true, false, false, false, false, false, false, false, false, false, false, false, false, false, false, false, false, false, false, false, false, false, false, false, false, false, false] rfl rfl (by kernel_rfl) (fun _ _ _ h => h) (Or.inl ⟨by rfl, ?_⟩) ?_ ?_
                  rotate_left
                  · intro w' 
                    go_simp
                    with_reducible rfl
                  rotate_left
                  · simp only [Act.put, List.setIfInBounds_toArray, List.set_cons_zero, List.set_cons_succ, i64_w, i32_w]
                    rfl
                  refine pure_ (i := 1) (N := some 68) (v := ?_) (a' := ?_) #[true, true, false, false, false, false, false, false, false, false, false, false, false, false, false, false, false, false, false, false, false, false, false, false, false, false, false] rfl rfl (by kernel_rfl) (fun _ _ _ h => h) (Or.inl ⟨by rfl, ?_⟩) ?_ ?_
                  rotate_left
                  · intro w' 
                    go_simp
                    with_reducible rfl
                  rotate_left
                  · simp only [Act.put, List.setIfInBounds_toArray, List.set_cons_zero, List.set_cons_succ, i64_w, i32_w]
                    rfl
                  refine pure_ (i := 2) (N := some 69) (v := ?_) (a' := ?_) #[true, true, true, false, false, false, false, false, false, false, false, false, false, false, false, false, false, false, false, false, false, false, false, false, false, false, false] rfl rfl (by kernel_rfl) (fun _ _ _ h => h) (Or.inl ⟨by rfl, ?_⟩) ?_ ?_
                  rotate_left
                  · intro w' 
                    go_simp
                    with_reducible rfl
                  rotate_left
                  · simp only [Act.put, List.setIfInBounds_toArray, List.set_cons_zero, List.set_cons_succ, i64_w, i32_w]
                    rfl
                  refine pure_ (i := 3) (N := some 70) (v := ?_) (a' := ?_) #[true, true, true, true, false, false, false, false, false, false, false, false, false, false, false, false, false, false, false, false, false, false, false, false, false, false, false] rfl rfl (by kernel_rfl) (fun _ _ _ h => h) (Or.inl ⟨by rfl, ?_⟩) ?_ ?_
                  rotate_left
                  · intro w' 
                    go_simp
                    with_reducible rfl
                  rotate_left
                  · simp only [Act.put, List.setIfInBounds_toArray, List.set_cons_zero, List.set_cons_succ, i64_w, i32_w]
                    rfl
                  refine pure_ (i := 4) (N := some 71) (v := ?_) (a' := ?_) #[true, true, true, true, true, false, false, false, false, false, false, false, false, false, false, false, false, false, false, false, false, false, false, false, false, false, false] rfl rfl (by kernel_rfl) (fun _ _ _ h => h) (Or.inl ⟨by rfl, ?_⟩) ?_ ?_
                  rotate_left
                  · intro w' 
                    go_simp
                    with_reducible rfl
                  rotate_left
                  · simp only [Act.put, List.setIfInBounds_toArray, List.set_cons_zero, List.set_cons_succ, i64_w, i32_w]
                    rfl
                  refine take_ (i := 5) (N := some 72) (v := .bool true) (a' := ?_) #[true, true, true, true, true, true, false, false, false, false, false, false, false, false, false, false, false, false, false, false, false, false, false, false, false, false, false] rfl rfl (by kernel_rfl) (fun _ _ _ h => h) (Or.inl ⟨by rfl, ?_⟩) hHeld ?_ ?_
                  · intro w' hs_
                    obtain ⟨hs0, hs1, hs2, hs3⟩ := hs_
                    exact (by go_simp; done)
                  rotate_left
                  · simp only [Act.put, List.setIfInBounds_toArray, List.set_cons_zero, List.set_cons_succ, i64_w, i32_w]
                    rfl
                  refine pure_ (i := 6) (N := some 73) (v := .bool true) (a' := ?_) #[true, true, true, true, true, true, true, false, false, false, false, false, false, false, false, false, false, false, false, false, false, false, false, false, false, false, false] rfl rfl (by kernel_rfl) (fun _ _ _ h => h) (Or.inl ⟨by rfl, ?_⟩) ?_ ?_
                  · intro w' 
                    exact (by go_simp; done)
                  rotate_left
                  · simp only [Act.put, List.setIfInBounds_toArray, List.set_cons_zero, List.set_cons_succ, i64_w, i32_w]
                    rfl
                  refine pure_ (i := 7) (N := some 74) (v := undef) (a' := ?_) #[true, true, true, true, true, true, true, true, false, false, false, false, false, false, false, false, false, false, false, false, false, false, false, false, false, false, false] rfl rfl (by kernel_rfl) (fun _ _ _ h => h) (Or.inr ⟨by rfl, rfl⟩) ?_ ?_
                  rotate_left
                  · simp only [Act.put, List.setIfInBounds_toArray, List.set_cons_zero, List.set_cons_succ, i64_w, i32_w]
                    rfl
                  refine pure_ (i := 8) (N := some 75) (v := undef) (a' := ?_) #[true, true, true, true, true, true, true, true, true, false, false, false, false, false, false, false, false, false, false, false, false, false, false, false, false, false, false] rfl rfl (by kernel_rfl) (fun _ _ _ h => h) (Or.inr ⟨by rfl, rfl⟩) ?_ ?_
                  rotate_left
                  · simp only [Act.put, List.setIfInBounds_toArray, List.set_cons_zero, List.set_cons_succ, i64_w, i32_w]
                    rfl
                  refine pure_ (i := 9) (N := some 76) (v := undef) (a' := ?_) #[true, true, true, true, true, true, true, true, true, true, false, false, false, false, false, false, false, false, false, false, false, false, false, false, false, false, false] rfl rfl (by kernel_rfl) (fun _ _ _ h => h) (Or.inr ⟨by rfl, rfl⟩) ?_ ?_
                  rotate_left
                  · simp only [Act.put, List.setIfInBounds_toArray, List.set_cons_zero, List.set_cons_succ, i64_w, i32_w]
                    rfl
                  refine pure_ (i := 10) (N := some 77) (v := undef) (a' := ?_) #[true, true, true, true, true, true, true, true, true, true, true, false, false, false, false, false, false, false, false, false, false, false, false, false, false, false, false] rfl rfl (by kernel_rfl) (fun _ _ _ h => h) (Or.inr ⟨by rfl, rfl⟩) ?_ ?_
                  rotate_left
                  · simp only [Act.put, List.setIfInBounds_toArray, List.set_cons_zero, List.set_cons_succ, i64_w, i32_w]
                    rfl
                  refine pure_ (i := 11) (N := some 78) (v := undef) (a' := ?_) #[true, true, true, true, true, true, true, true, true, true, true, true, false, false, false, false, false, false, false, false, false, false, false, false, false, false, false] rfl rfl (by kernel_rfl) (fun _ _ _ h => h) (Or.inr ⟨by rfl, rfl⟩) ?_ ?_
                  rotate_left
                  · simp only [Act.put, List.setIfInBounds_toArray, List.set_cons_zero, List.set_cons_succ, i64_w, i32_w]
                    rfl
                  refine pure_ (i := 12) (N := some 79) (v := undef) (a' := ?_) #[true, true, true, true, true, true, true, true, true, true, true, true, true, false, false, false, false, false, false, false, false, false, false, false, false, false, false] rfl rfl (by kernel_rfl) (fun _ _ _ h => h) (Or.inr ⟨by rfl, rfl⟩) ?_ ?_
                  rotate_left
                  · simp only [Act.put, List.setIfInBounds_toArray, List.set_cons_zero, List.set_cons_succ, i64_w, i32_w]
                    rfl
                  refine pure_ (i := 13) (N := some 80) (v := undef) (a' := ?_) #[true, true, true, true, true, true, true, true, true, true, true, true, true, true, false, false, false, false, false, false, false, false, false, false, false, false, false] rfl rfl (by kernel_rfl) (fun _ _ _ h => h) (Or.inr ⟨by rfl, rfl⟩) ?_ ?_
                  rotate_left
                  · simp only [Act.put, List.setIfInBounds_toArray, List.set_cons_zero, List.set_cons_succ, i64_w, i32_w]
                    rfl
                  refine pure_ (i := 14) (N := some 81) (v := undef) (a' := ?_) #[true, true, true, true, true, true, true, true, true, true, true, true, true, true, true, false, false, false, false, false, false, false, false, false, false, false, false] rfl rfl (by kernel_rfl) (fun _ _ _ h => h) (Or.inr ⟨by rfl, rfl⟩) ?_ ?_
                  rotate_left
                  · simp only [Act.put, List.setIfInBounds_toArray, List.set_cons_zero, List.set_cons_succ, i64_w, i32_w]
                    rfl
                  refine pure_ (i := 15) (N := some 82) (v := undef) (a' := ?_) #[true, true, true, true, true, true, true, true, true, true, true, true, true, true, true, true, false, false, false, false, false, false, false, false, false, false, false] rfl rfl (by kernel_rfl) (fun _ _ _ h => h) (Or.inr ⟨by rfl, rfl⟩) ?_ ?_
                  rotate_left
                  · simp only [Act.put, List.setIfInBounds_toArray, List.set_cons_zero, List.set_cons_succ, i64_w, i32_w]
                    rfl
                  refine pure_ (i := 16) (N := some 83) (v := undef) (a' := ?_) #[true, true, true, true, true, true, true, true, true, true, true, true, true, true, true, true, true, false, false, false, false, false, false, false, false, false, false] rfl rfl (by kernel_rfl) (fun _ _ _ h => h) (Or.inr ⟨by rfl, rfl⟩) ?_ ?_
                  rotate_left
                  · simp only [Act.put, List.setIfInBounds_toArray, List.set_cons_zero, List.set_cons_succ, i64_w, i32_w]
                    rfl
                  refine pure_ (i := 17) (N := some 84) (v := undef) (a' := ?_) #[true, true, true, true, true, true, true, true, true, true, true, true, true, true, true, true, true, true, false, false, false, false, false, false, false, false, false] rfl rfl (by kernel_rfl) (fun _ _ _ h => h) (Or.inr ⟨by rfl, rfl⟩) ?_ ?_
                  rotate_left
                  · simp only [Act.put, List.setIfInBounds_toArray, List.set_cons_zero, List.set_cons_succ, i64_w, i32_w]
                    rfl
                  refine pure_ (i := 18) (N := some 85) (v := undef) (a' := ?_) #[true, true, true, true, true, true, true, true, true, true, true, true, true, true, true, true, true, true, true, false, false, false, false, false, false, false, false] rfl rfl (by kernel_rfl) (fun _ _ _ h => h) (Or.inr ⟨by rfl, rfl⟩) ?_ ?_
                  rotate_left
                  · simp only [Act.put, List.setIfInBounds_toArray, List.set_cons_zero, List.set_cons_succ, i64_w, i32_w]
                    rfl
                  refine pure_ (i := 19) (N := some 86) (v := undef) (a' := ?_) #[true, true, true, true, true, true, true, true, true, true, true, true, true, true, true, true, true, true, true, true, false, false, false, false, false, false, false] rfl rfl (by kernel_rfl) (fun _ _ _ h => h) (Or.inr ⟨by rfl, rfl⟩) ?_ ?_
                  rotate_left
                  · simp only [Act.put, List.setIfInBounds_toArray, List.set_cons_zero, List.set_cons_succ, i64_w, i32_w]
                    rfl
                  refine pure_ (i := 20) (N := some 87) (v := undef) (a' := ?_) #[true, true, true, true, true, true, true, true, true, true, true, true, true, true, true, true, true, true, true, true, true, false, false, false, false, false, false] rfl rfl (by kernel_rfl) (fun _ _ _ h => h) (Or.inr ⟨by rfl, rfl⟩) ?_ ?_
                  rotate_left
                  · simp only [Act.put, List.setIfInBounds_toArray, List.set_cons_zero, List.set_cons_succ, i64_w, i32_w]
                    rfl
                  refine pure_ (i := 21) (N := some 88) (v := undef) (a' := ?_) #[true, true, true, true, true, true, true, true, true, true, true, true, true, true, true, true, true, true, true, true, true, true, false, false, false, false, false] rfl rfl (by kernel_rfl) (fun _ _ _ h => h) (Or.inr ⟨by rfl, rfl⟩) ?_ ?_
                  rotate_left
                  · simp only [Act.put, List.setIfInBounds_toArray, List.set_cons_zero, List.set_cons_succ, i64_w, i32_w]
                    rfl
                  refine pure_ (i := 22) (N := some 89) (v := undef) (a' := ?_) #[true, true, true, true, true, true, true, true, true, true, true, true, true, true, true, true, true, true, true, true, true, true, true, false, false, false, false] rfl rfl (by kernel_rfl) (fun _ _ _ h => h) (Or.inr ⟨by rfl, rfl⟩) ?_ ?_
                  rotate_left
                  · simp only [Act.put, List.setIfInBounds_toArray, List.set_cons_zero, List.set_cons_succ, i64_w, i32_w]
                    rfl
                  refine pure_ (i := 23) (N := some 90) (v := undef) (a' := ?_) #[true, true, true, true, true, true, true, true, true, true, true, true, true, true, true, true, true, true, true, true, true, true, true, true, false, false, false] rfl rfl (by kernel_rfl) (fun _ _ _ h => h) (Or.inr ⟨by rfl, rfl⟩) ?_ ?_
                  rotate_left
                  · simp only [Act.put, List.setIfInBounds_toArray, List.set_cons_zero, List.set_cons_succ, i64_w, i32_w]
                    rfl
                  refine pure_ (i := 24) (N := some 91) (v := .bool true) (a' := ?_) #[true, true, true, true, true, true, true, true, true, true, true, true, true, true, true, true, true, true, true, true, true, true, true, true, true, false, false] rfl rfl (by kernel_rfl) (fun _ _ _ h => h) (Or.inl ⟨by rfl, ?_⟩) ?_ ?_
                  · intro w' 
                    exact (by go_simp; done)
                  rotate_left
                  · simp only [Act.put, List.setIfInBounds_toArray, List.set_cons_zero, List.set_cons_succ, i64_w, i32_w]
                    rfl
                  refine pure_ (i := 25) (N := some 92) (v := ?_) (a' := ?_) #[true, true, true, true, true, true, true, true, true, true, true, true, true, true, true, true, true, true, true, true, true, true, true, true, true, true, false] rfl rfl (by kernel_rfl) (fun _ _ _ h => h) (Or.inl ⟨by rfl, ?_⟩) ?_ ?_
                  rotate_left
                  · intro w' 
                    go_simp
                    with_reducible rfl
                  rotate_left
                  · simp only [Act.put, List.setIfInBounds_toArray, List.set_cons_zero, List.set_cons_succ, i64_w, i32_w]
                    rfl
                  refine last_ (i := 26) (N := none) #[true, true, true, true, true, true, true, true, true, true, true, true, true, true, true, true, true, true, true, true, true, true, true, true, true, true, true] rfl rfl (by kernel_rfl) (by decide) (fun K hK => ?_)
                  have c0_ := HCD.out.1
                  have c00_ := HCD.out.2
                  refine skip_ (w1 := ?_) (by rfl) rfl ?_ ?_
                  rotate_left
                  · go_simp
                    rfl
                  have HS6 := Aside0.mk (((show X.Lies w0 wa (.row (Kd.scalar Value.bool (fun _ => rfl)) 4 (.slice (some ⟨gg, 0, none⟩) s.pend.length cg) M :: _) from HSa.out.perm [4, 0, 1, 2, 3] 5 (by decide) (by decide)).putRow i (true)).perm [1, 2, 3, 4, 0] 5 (by decide) (by decide))
                  clear c0_ c00_ HCD HSa hHeld
                  refine hK.out _ _ ?_
                  clear hK K
                  refine done_ (by kernel_rfl) ?_
                  go_wp2_with fail
                  cases gk with
                  | zero => exact absurd HI.out (by omega)
                  | succ k1 =>
                    go_roundg k1
                    case measure => omega
                    case rel => exact ⟨i + 1, by go_num, ⟨by have := HI.out; omega⟩, ⟨by have h := HMS.out; rw [Bool.true_or] at h; rw [← h]; exact HS6.out⟩⟩
                | false =>
                  go_wp2_with fail
                  refine start_ (n := 27) (S := (fun w' => w'.cell? ⟨gg, i, none⟩ = some (.bool false) ∧ w'.cell? ⟨p, 1, none⟩ = some (.slice (some ⟨g3, 0, none⟩) s.pend.length c1) ∧ w'.cell? ⟨g3, i * 2, none⟩ = some (.int .i64 (y.1 : Int)) ∧ w'.cell? ⟨g3, k * 2, none⟩ = some (.int .i64 (x.1 : Int)))) (ds := [26]) #[false, false, false, false, false, false, false, false, false, false, false, false, false, false, false, false, false, false, false, false, false, false, false, false, false, false, false] (by kernel_rfl) rfl rfl ⟨c0_, (HS5.out.boxed 0 rfl).cell 1 _ rfl, y0_, x0_⟩ (fun hHeld => ?_)
                  have HSa := Aside0.mk (HS5.out.drew)
                  have HCD := Aside0.mk (And.intro (show (World.drew _).cell? ⟨gg, i, none⟩ = some (.bool false) from c0_) (show (World.drew _).frozen? ⟨gg, i, none⟩ = false from c00_))
                  generalize World.drew _ = wa at *
                  clear HS5
                  refine pure_ (i := 0) (N := some 67) (v := ?_) (a' := ?_) #[true, false, false, false, false, false, false, false, false, false, false, false, false, false, false, false, false, false, false, false, false, false, false, false, false, false, false] rfl rfl (by kernel_rfl) (fun _ _ _ h => h) (Or.inl ⟨by rfl, ?_⟩) ?_ ?_
                  rotate_left
                  · intro w' 
                    go_simp
                    with_reducible rfl
                  rotate_left
                  · simp only [Act.put, List.setIfInBounds_toArray, List.set_cons_zero, List.set_cons_succ, i64_w, i32_w]
                    rfl
                  refine pure_ (i := 1) (N := some 68) (v := ?_) (a' := ?_) #[true, true, false, false, false, false, false, false, false, false, false, false, false, false, false, false, false, false, false, false, false, false, false, false, false, false, false] rfl rfl (by kernel_rfl) (fun _ _ _ h => h) (Or.inl ⟨by rfl, ?_⟩) ?_ ?_
                  rotate_left
                  · intro w' 
                    go_simp
                    with_reducible rfl
                  rotate_left
                  · simp only [Act.put, List.setIfInBounds_toArray, List.set_cons_zero, List.set_cons_succ, i64_w, i32_w]
                    rfl
                  refine pure_ (i := 2) (N := some 69) (v := ?_) (a' := ?_) #[true, true, true, false, false, false, false, false, false, false, false, false, false, false, false, false, false, false, false, false, false, false, false, false, false, false, false] rfl rfl (by kernel_rfl) (fun _ _ _ h => h) (Or.inl ⟨by rfl, ?_⟩) ?_ ?_
                  rotate_left
                  · intro w' 
                    go_simp
                    with_reducible rfl
                  rotate_left
                  · simp only [Act.put, List.setIfInBounds_toArray, List.set_cons_zero, List.set_cons_succ, i64_w, i32_w]
                    rfl
                  refine pure_ (i := 3) (N := some 70) (v := ?_) (a' := ?_) #[true, true, true, true, false, false, false, false, false, false, false, false, false, false, false, false, false, false, false, false, false, false, false, false, false, false, false] rfl rfl (by kernel_rfl) (fun _ _ _ h => h) (Or.inl ⟨by rfl, ?_⟩) ?_ ?_
                  rotate_left
                  · intro w' 
                    go_simp
                    with_reducible rfl
                  rotate_left
                  · simp only [Act.put, List.setIfInBounds_toArray, List.set_cons_zero, List.set_cons_succ, i64_w, i32_w]
                    rfl
                  refine pure_ (i := 4) (N := some 71) (v := ?_) (a' := ?_) #[true, true, true, true, true, false, false, false, false, false, false, false, false, false, false, false, false, false, false, false, false, false, false, false, false, false, false] rfl rfl (by kernel_rfl) (fun _ _ _ h => h) (Or.inl ⟨by rfl, ?_⟩) ?_ ?_
                  rotate_left
                  · intro w' 
                    go_simp
                    with_reducible rfl
                  rotate_left
                  · simp only [Act.put, List.setIfInBounds_toArray, List.set_cons_zero, List.set_cons_succ, i64_w, i32_w]
                    rfl
                  refine take_ (i := 5) (N := some 72) (v := .bool false) (a' := ?_) #[true, true, true, true, true, true, false, false, false, false, false, false, false, false, false, false, false, false, false, false, false, false, false, false, false, false, false] rfl rfl (by kernel_rfl) (fun _ _ _ h => h) (Or.inl ⟨by rfl, ?_⟩) hHeld ?_ ?_
                  · intro w' hs_
                    obtain ⟨hs0, hs1, hs2, hs3⟩ := hs_
                    exact (by go_simp; done)
                  rotate_left
                  · simp only [Act.put, List.setIfInBounds_toArray, List.set_cons_zero, List.set_cons_succ, i64_w, i32_w]
                    rfl
                  refine pure_ (i := 6) (N := some 73) (v := .bool false) (a' := ?_) #[true, true, true, true, true, true, true, false, false, false, false, false, false, false, false, false, false, false, false, false, false, false, false, false, false, false, false] rfl rfl (by kernel_rfl) (fun _ _ _ h => h) (Or.inl ⟨by rfl, ?_⟩) ?_ ?_
                  · intro w' 
                    exact (by go_simp; done)
                  rotate_left
                  · simp only [Act.put, List.setIfInBounds_toArray, List.set_cons_zero, List.set_cons_succ, i64_w, i32_w]
                    rfl
                  refine pure_ (i := 7) (N := some 74) (v := ?_) (a' := ?_) #[true, true, true, true, true, true, true, true, false, false, false, false, false, false, false, false, false, false, false, false, false, false, false, false, false, false, false] rfl rfl (by kernel_rfl) (fun _ _ _ h => h) (Or.inl ⟨by rfl, ?_⟩) ?_ ?_
                  rotate_left
                  · intro w' 
                    go_simp
                    with_reducible rfl
                  rotate_left
                  · simp only [Act.put, List.setIfInBounds_toArray, List.set_cons_zero, List.set_cons_succ, i64_w, i32_w]
                    rfl
                  refine pure_ (i := 8) (N := some 75) (v := ?_) (a' := ?_) #[true, true, true, true, true, true, true, true, true, false, false, false, false, false, false, false, false, false, false, false, false, false, false, false, false, false, false] rfl rfl (by kernel_rfl) (fun _ _ _ h => h) (Or.inl ⟨by rfl, ?_⟩) ?_ ?_
                  rotate_left
                  · intro w' 
                    go_simp
                    with_reducible rfl
                  rotate_left
                  · simp only [Act.put, List.setIfInBounds_toArray, List.set_cons_zero, List.set_cons_succ, i64_w, i32_w]
                    rfl
                  refine pure_ (i := 9) (N := some 76) (v := ?_) (a' := ?_) #[true, true, true, true, true, true, true, true, true, true, false, false, false, false, false, false, false, false, false, false, false, false, false, false, false, false, false] rfl rfl (by kernel_rfl) (fun _ _ _ h => h) (Or.inl ⟨by rfl, ?_⟩) ?_ ?_
                  rotate_left
                  · intro w' 
                    go_simp
                    with_reducible rfl
                  rotate_left
                  · simp only [Act.put, List.setIfInBounds_toArray, List.set_cons_zero, List.set_cons_succ, i64_w, i32_w]
                    rfl
                  refine take_ (i := 10) (N := some 77) (v := .slice (some ⟨g3, 0, none⟩) s.pend.length c1) (a' := ?_) #[true, true, true, true, true, true, true, true, true, true, true, false, false, false, false, false, false, false, false, false, false, false, false, false, false, false, false] rfl rfl (by kernel_rfl) (fun _ _ _ h => h) (Or.inl ⟨by rfl, ?_⟩) hHeld ?_ ?_
                  · intro w' hs_
                    obtain ⟨hs0, hs1, hs2, hs3⟩ := hs_
                    exact (by go_simp; done)
                  rotate_left
                  · simp only [Act.put, List.setIfInBounds_toArray, List.set_cons_zero, List.set_cons_succ, i64_w, i32_w]
                    rfl
                  refine pure_ (i := 11) (N := some 78) (v := ?_) (a' := ?_) #[true, true, true, true, true, true, true, true, true, true, true, true, false, false, false, false, false, false, false, false, false, false, false, false, false, false, false] rfl rfl (by kernel_rfl) (fun _ _ _ h => h) (Or.inl ⟨by rfl, ?_⟩) ?_ ?_
                  rotate_left
                  · intro w' 
                    go_simp
                    with_reducible rfl
                  rotate_left
                  · simp only [Act.put, List.setIfInBounds_toArray, List.set_cons_zero, List.set_cons_succ, i64_w, i32_w]
                    rfl
                  refine pure_ (i := 12) (N := some 79) (v := ?_) (a' := ?_) #[true, true, true, true, true, true, true, true, true, true, true, true, true, false, false, false, false, false, false, false, false, false, false, false, false, false, false] rfl rfl (by kernel_rfl) (fun _ _ _ h => h) (Or.inl ⟨by rfl, ?_⟩) ?_ ?_
                  rotate_left
                  · intro w' 
                    go_simp
                    with_reducible rfl
                  rotate_left
                  · simp only [Act.put, List.setIfInBounds_toArray, List.set_cons_zero, List.set_cons_succ, i64_w, i32_w]
                    rfl
                  refine pure_ (i := 13) (N := some 80) (v := ?_) (a' := ?_) #[true, true, true, true, true, true, true, true, true, true, true, true, true, true, false, false, false, false, false, false, false, false, false, false, false, false, false] rfl rfl (by kernel_rfl) (fun _ _ _ h => h) (Or.inl ⟨by rfl, ?_⟩) ?_ ?_
                  rotate_left
                  · intro w' 
                    go_simp
                    with_reducible rfl
                  rotate_left
                  · simp only [Act.put, List.setIfInBounds_toArray, List.set_cons_zero, List.set_cons_succ, i64_w, i32_w]
                    rfl
                  refine take_ (i := 14) (N := some 81) (v := .int .i64 (y.1 : Int)) (a' := ?_) #[true, true, true, true, true, true, true, true, true, true, true, true, true, true, true, false, false, false, false, false, false, false, false, false, false, false, false] rfl rfl (by kernel_rfl) (fun _ _ _ h => h) (Or.inl ⟨by rfl, ?_⟩) hHeld ?_ ?_
                  · intro w' hs_
                    obtain ⟨hs0, hs1, hs2, hs3⟩ := hs_
                    exact (by go_simp; done)
                  rotate_left
                  · simp only [Act.put, List.setIfInBounds_toArray, List.set_cons_zero, List.set_cons_succ, i64_w, i32_w]
                    rfl
                  refine pure_ (i := 15) (N := some 82) (v := ?_) (a' := ?_) #[true, true, true, true, true, true, true, true, true, true, true, true, true, true, true, true, false, false, false, false, false, false, false, false, false, false, false] rfl rfl (by kernel_rfl) (fun _ _ _ h => h) (Or.inl ⟨by rfl, ?_⟩) ?_ ?_
                  rotate_left
                  · intro w' 
                    go_simp
                    with_reducible rfl
                  rotate_left
                  · simp only [Act.put, List.setIfInBounds_toArray, List.set_cons_zero, List.set_cons_succ, i64_w, i32_w]
                    rfl
                  refine pure_ (i := 16) (N := some 83) (v := ?_) (a' := ?_) #[true, true, true, true, true, true, true, true, true, true, true, true, true, true, true, true, true, false, false, false, false, false, false, false, false, false, false] rfl rfl (by kernel_rfl) (fun _ _ _ h => h) (Or.inl ⟨by rfl, ?_⟩) ?_ ?_
                  rotate_left
                  · intro w' 
                    go_simp
                    with_reducible rfl
                  rotate_left
                  · simp only [Act.put, List.setIfInBounds_toArray, List.set_cons_zero, List.set_cons_succ, i64_w, i32_w]
                    rfl
                  refine pure_ (i := 17) (N := some 84) (v := ?_) (a' := ?_) #[true, true, true, true, true, true, true, true, true, true, true, true, true, true, true, true, true, true, false, false, false, false, false, false, false, false, false] rfl rfl (by kernel_rfl) (fun _ _ _ h => h) (Or.inl ⟨by rfl, ?_⟩) ?_ ?_
                  rotate_left
                  · intro w' 
                    go_simp
                    with_reducible rfl
                  rotate_left
                  · simp only [Act.put, List.setIfInBounds_toArray, List.set_cons_zero, List.set_cons_succ, i64_w, i32_w]
                    rfl
                  refine take_ (i := 18) (N := some 85) (v := .slice (some ⟨g3, 0, none⟩) s.pend.length c1) (a' := ?_) #[true, true, true, true, true, true, true, true, true, true, true, true, true, true, true, true, true, true, true, false, false, false, false, false, false, false, false] rfl rfl (by kernel_rfl) (fun _ _ _ h => h) (Or.inl ⟨by rfl, ?_⟩) hHeld ?_ ?_
                  · intro w' hs_
                    obtain ⟨hs0, hs1, hs2, hs3⟩ := hs_
                    exact (by go_simp; done)
                  rotate_left
                  · simp only [Act.put, List.setIfInBounds_toArray, List.set_cons_zero, List.set_cons_succ, i64_w, i32_w]
                    rfl
                  refine pure_ (i := 19) (N := some 86) (v := ?_) (a' := ?_) #[true, true, true, true, true, true, true, true, true, true, true, true, true, true, true, true, true, true, true, true, false, false, false, false, false, false, false] rfl rfl (by kernel_rfl) (fun _ _ _ h => h) (Or.inl ⟨by rfl, ?_⟩) ?_ ?_
                  rotate_left
                  · intro w' 
                    go_simp
                    with_reducible rfl
                  rotate_left
                  · simp only [Act.put, List.setIfInBounds_toArray, List.set_cons_zero, List.set_cons_succ, i64_w, i32_w]
                    rfl
                  refine pure_ (i := 20) (N := some 87) (v := ?_) (a' := ?_) #[true, true, true, true, true, true, true, true, true, true, true, true, true, true, true, true, true, true, true, true, true, false, false, false, false, false, false] rfl rfl (by kernel_rfl) (fun _ _ _ h => h) (Or.inl ⟨by rfl, ?_⟩) ?_ ?_
                  rotate_left
                  · intro w' 
                    go_simp
                    with_reducible rfl
                  rotate_left
                  · simp only [Act.put, List.setIfInBounds_toArray, List.set_cons_zero, List.set_cons_succ, i64_w, i32_w]
                    rfl
                  refine pure_ (i := 21) (N := some 88) (v := ?_) (a' := ?_) #[true, true, true, true, true, true, true, true, true, true, true, true, true, true, true, true, true, true, true, true, true, true, false, false, false, false, false] rfl rfl (by kernel_rfl) (fun _ _ _ h => h) (Or.inl ⟨by rfl, ?_⟩) ?_ ?_
                  rotate_left
                  · intro w' 
                    go_simp
                    with_reducible rfl
                  rotate_left
                  · simp only [Act.put, List.setIfInBounds_toArray, List.set_cons_zero, List.set_cons_succ, i64_w, i32_w]
                    rfl
                  refine take_ (i := 22) (N := some 89) (v := .int .i64 (x.1 : Int)) (a' := ?_) #[true, true, true, true, true, true, true, true, true, true, true, true, true, true, true, true, true, true, true, true, true, true, true, false, false, false, false] rfl rfl (by kernel_rfl) (fun _ _ _ h => h) (Or.inl ⟨by rfl, ?_⟩) hHeld ?_ ?_
                  · intro w' hs_
                    obtain ⟨hs0, hs1, hs2, hs3⟩ := hs_
                    exact (by go_simp; done)
                  rotate_left
                  · simp only [Act.put, List.setIfInBounds_toArray, List.set_cons_zero, List.set_cons_succ, i64_w, i32_w]
                    rfl
                  refine pure_ (i := 23) (N := some 90) (v := .bool (decide (y.1 = x.1))) (a' := ?_) #[true, true, true, true, true, true, true, true, true, true, true, true, true, true, true, true, true, true, true, true, true, true, true, true, false, false, false] rfl rfl (by kernel_rfl) (fun _ _ _ h => h) (Or.inl ⟨by rfl, ?_⟩) ?_ ?_
                  · intro w' 
                    exact (by go_simp; done)
                  rotate_left
                  · simp only [Act.put, List.setIfInBounds_toArray, List.set_cons_zero, List.set_cons_succ, i64_w, i32_w]
                    rfl
                  refine pure_ (i := 24) (N := some 91) (v := .bool (decide (y.1 = x.1))) (a' := ?_) #[true, true, true, true, true, true, true, true, true, true, true, true, true, true, true, true, true, true, true, true, true, true, true, true, true, false, false] rfl rfl (by kernel_rfl) (fun _ _ _ h => h) (Or.inl ⟨by rfl, ?_⟩) ?_ ?_
                  · intro w' 
                    exact (by go_simp; done)
                  rotate_left
                  · simp only [Act.put, List.setIfInBounds_toArray, List.set_cons_zero, List.set_cons_succ, i64_w, i32_w]
                    rfl
                  refine pure_ (i := 25) (N := some 92) (v := ?_) (a' := ?_) #[true, true, true, true, true, true, true, true, true, true, true, true, true, true, true, true, true, true, true, true, true, true, true, true, true, true, false] rfl rfl (by kernel_rfl) (fun _ _ _ h => h) (Or.inl ⟨by rfl, ?_⟩) ?_ ?_
                  rotate_left
                  · intro w' 
                    go_simp
                    with_reducible rfl
                  rotate_left
                  · simp only [Act.put, List.setIfInBounds_toArray, List.set_cons_zero, List.set_cons_succ, i64_w, i32_w]
                    rfl
                  refine last_ (i := 26) (N := none) #[true, true, true, true, true, true, true, true, true, true, true, true, true, true, true, true, true, true, true, true, true, true, true, true, true, true, true] rfl rfl (by kernel_rfl) (by decide) (fun K hK => ?_)
                  have c0_ := HCD.out.1
                  have c00_ := HCD.out.2
                  refine skip_ (w1 := ?_) (by rfl) rfl ?_ ?_
                  rotate_left
                  · go_simp
                    rfl
                  have HS6 := Aside0.mk (((show X.Lies w0 wa (.row (Kd.scalar Value.bool (fun _ => rfl)) 4 (.slice (some ⟨gg, 0, none⟩) s.pend.length cg) M :: _) from HSa.out.perm [4, 0, 1, 2, 3] 5 (by decide) (by decide)).putRow i (decide (y.1 = x.1))).perm [1, 2, 3, 4, 0] 5 (by decide) (by decide))
                  clear c0_ c00_ HCD HSa hHeld
                  refine hK.out _ _ ?_
                  clear hK K
                  refine done_ (by kernel_rfl) ?_
                  go_wp2_with fail
                  cases gk with
                  | zero => exact absurd HI.out (by omega)
                  | succ k1 =>
                    go_roundg k1
                    case measure => omega
                    case rel => exact ⟨i + 1, by go_num, ⟨by have := HI.out; omega⟩, ⟨by have h := HMS.out; rw [Bool.false_or] at h; rw [← h]; exact HS6.out⟩⟩
              · have q4 : decide ((i : Int) ≤ (k : Int)) = false := decide_eq_false (by omega)
                have q44 : decide (i ≤ k) = false := decide_eq_false hik
                obtain rfl : i = k + 1 := by have := HI.out; omega
                rw [← goneM_next] at HS5
                clear HI hik
                go_wp2_with fail
                go_roundg ko
                case measure => omega
                case rel => exact ⟨k + 1, by go_num, ⟨by have := HK.out; omega⟩, ⟨by rw [← HB2.out]; exact HS5.out⟩⟩
        · have q3 : decide ((k : Int) < (s.pend.length : Int)) = false := decide_eq_false (by omega)
          have q33 : decide (k < s.pend.length) = false := decide_eq_false hlt
          obtain rfl : k = s.pend.length := by have := HK.out; omega
          have HS7 := Aside0.mk (HS5.out.wnil.perm [0, 3, 1, 2, 4, 5] 6 (by decide) (by decide))
          obtain ⟨B, hB⟩ : ∃ B, B = X.settleTo s.bytes s.pend bits s.pend.length := ⟨_, rfl⟩
          rw [← hB] at HS7
          have HBB := Aside0.mk hB
          clear HS5 HK hlt hB
          go_wp2_with fail
          go_loopg [7, 8] s.pend.length (fun gk v7_ v8_ w' => ∃ k : Nat, v8_ = .int .i64 (k : Int) ∧ Aside0 (gk + k = s.pend.length) ∧ Aside0 (X.Lies w0 w' (.wrow v7_ (X.leftTo s.pend bits k) :: .wrow (.slice A1 s.pend.length c1) s.pend :: .box p #[.slice (some ⟨g0, 0, none⟩) (256 * n) c0, .slice A1 s.pend.length c1, v2, .bool st', .int .i64 (sl : Int)] 42 :: .row (Kd.int .u8) 5 (.slice (some ⟨g0, 0, none⟩) (256 * n) c0) B :: .wrow v2 s.ghosts :: .row Kd.bool 4 (.slice Ag s.pend.length cg) (goneM s.pend bits s.pend.length 0) :: L)))
          case atStart => exact ⟨0, rfl, ⟨by omega⟩, HS7⟩
          case round =>
            clear HS7
            obtain ⟨k, rfl, HK, HS5⟩ := hrel
            have f1_ := (HS5.out.boxed 2 rfl).cell 1 _ rfl
            obtain ⟨Al, cl, el, -, -⟩ := HS5.out.wform 0 rfl
            generalize hll : (X.leftTo s.pend bits k).length = ll at el
            subst el
            have HLL : Aside0 (ll ≤ k) := ⟨by rw [← hll]; exact X.leftTo_le _ _ _⟩
            have HLE := Aside0.mk hll
            clear hll
            by_cases hlt : k < s.pend.length
            · have q3 : decide ((k : Int) < (s.pend.length : Int)) = true := decide_eq_true (by omega)
              have q33 : decide (k < s.pend.length) = true := decide_eq_true hlt
              obtain ⟨x, hx⟩ : ∃ x, s.pend[k]? = some x := ⟨_, List.getElem?_eq_getElem hlt⟩
              obtain ⟨g3, rfl⟩ := HA1.out (by omega)
              obtain ⟨gg, rfl⟩ := HAG.out (by omega)
              have hgm := goneM_get s.pend bits s.pend.length 0 hlt
              rw [if_neg (Nat.not_lt_zero k), gone_stays hx] at hgm
              obtain ⟨c0_, c00_⟩ := HS5.out.cellRow (enc := Value.bool) (h1 := fun _ => rfl) 5 rfl hgm
              have HLN := Aside0.mk (leftTo_next (bits := bits) hx)
              clear hgm
              rcases hst : X.staysB s.pend bits k x with _ | _
              · rw [hst, Bool.not_false] at c0_
                have HS6 : Aside0 (X.Lies w0 wr (.wrow (.slice Al ll cl) (X.leftTo s.pend bits (k + 1)) :: .wrow (.slice (some ⟨g3, 0, none⟩) s.pend.length c1) s.pend :: .box p #[.slice (some ⟨g0, 0, none⟩) (256 * n) c0, .slice (some ⟨g3, 0, none⟩) s.pend.length c1, v2, .bool st', .int .i64 (sl : Int)] 42 :: .row (Kd.int .u8) 5 (.slice (some ⟨g0, 0, none⟩) (256 * n) c0) B :: .wrow v2 s.ghosts :: .row Kd.bool 4 (.slice (some ⟨gg, 0, none⟩) s.pend.length cg) (goneM s.pend bits s.pend.length 0) :: L)) := ⟨by rw [HLN.out, if_neg (by rw [hst]; decide)]; exact HS5.out⟩
                clear HS5 HLN hst
                go_wp2_with fail
                cases gk with
                | zero => exact absurd HK.out (by omega)
                | succ k1 =>
                  go_roundg k1
                  case measure => omega
                  case rel => exact ⟨k + 1, by go_num, ⟨by have := HK.out; omega⟩, HS6⟩
              · rw [hst, Bool.not_true] at c0_
                obtain ⟨cells, cells2, c, ok, ok2, hR2, hc, hR, hcl, hfr, hadd⟩ := HS5.out.wshare hx
                have HRC : Aside0 (wr.rangeAt g3 (k * 2) c) := ⟨X.raw2_at hR2 hc⟩
                have HC2 := Aside0.mk (X.raw2_el hR2 hc)
                have hbA : Below wr.heap.size wr (wr.alloc (.cells c.toArray 74)) := (Below.refl _ _).alloc (Nat.le_refl _) _
                have HRW := Aside0.mk (Kd.R_below hR hbA)
                have HFR : Aside0 (∀ j, (wr.alloc (.cells c.toArray 74)).heap.size ≤ j → ok j) := ⟨fun j hj => hfr j (Nat.le_trans hbA.size hj)⟩
                have HAD : Aside0 (∀ v1 w1, (Kd.raw 2).R 74 w1 0 ok v1 (cells ++ [c]) → (wr.alloc (.cells c.toArray 74)).grownBy w1 (Value.slice Al ll cl).ownBlock → X.Lies w0 w1 (.wrow v1 (X.leftTo s.pend bits (k + 1)) :: .wrow (.slice (some ⟨g3, 0, none⟩) s.pend.length c1) s.pend :: .box p #[.slice (some ⟨g0, 0, none⟩) (256 * n) c0, .slice (some ⟨g3, 0, none⟩) s.pend.length c1, v2, .bool st', .int .i64 (sl : Int)] 42 :: .row (Kd.int .u8) 5 (.slice (some ⟨g0, 0, none⟩) (256 * n) c0) B :: .wrow v2 s.ghosts :: .row Kd.bool 4 (.slice (some ⟨gg, 0, none⟩) s.pend.length cg) (goneM s.pend bits s.pend.length 0) :: L)) := ⟨fun v1 w1 h1 h2 => by rw [HLN.out, if_pos hst]; exact hadd h1 (World.grownBy.trans (World.grownBy_alloc wr _ _) h2)⟩
                have HCL : Aside0 ((cells.length + 1) * 32 ≤ 140737488355328) := ⟨by rw [hcl, HLE.out]; have := HLL.out; omega⟩
                clear hR2 hc hR hcl hfr hadd hbA HS5 HLN hst
                go_wp2_with (first | ((with_reducible refine gate_ (.load 74 (.tmp 113)) rfl ?_); (refine wpList_load_mid rfl 74 (.tmp 113) rfl g3 (k * 2) rfl c _ HRC.out Try.underlying74 rfl (by rw [HC2.out.1]; exact info_v) ?_)) | ((with_reducible refine gate_ (.buildSlice 40 1 #[(0, .tmp 114)]) rfl ?_); (refine X.wpList_slice rfl (.tmp 114) rfl _ _ (by rfl) (slice_v wr c HC2.out.1) ?_); have HXC := Aside0.mk (X.C_raw_one (X.Blk.new wr c.toArray 74) HC2.out.1 HC2.out.2)) | ((with_reducible refine gate_ (.call { callee := .builtin .append, args := #[.tmp 107, .tmp 115], argTypes := #[40, 40] }) rfl ?_); (refine Kd.R_append_rows (Kd.raw 2) (w0 := wr.alloc (.cells c.toArray 74)) 0 rfl (.tmp 107) (.tmp 115) 40 74 (.agg zeroV) 32 rfl Try.underlying40 info_v3 rfl (by decide) (by decide) _ cells [c] _ _ _ ok (fun _ => False) (by rfl) (by rfl) HRW.out HXC.out (fun _ _ h => h) (fun _ h => h.elim) HFR.out (Below.refl 0 _) (Nat.zero_le _) (by have := HCL.out; omega) ?_); intro v5 w5 hr5 hb5 hg5 ha5; have HS6 := Aside0.mk (HAD.out v5 w5 hr5 hg5); clear hr5 hb5 hg5 ha5))
                cases gk with
                | zero => exact absurd HK.out (by omega)
                | succ k1 =>
                  go_roundg k1
                  case measure => omega
                  case rel => exact ⟨k + 1, by go_num, ⟨by have := HK.out; omega⟩, HS6⟩
            · have q3 : decide ((k : Int) < (s.pend.length : Int)) = false := decide_eq_false (by omega)
              have q33 : decide (k < s.pend.length) = false := decide_eq_false hlt
              obtain rfl : k = s.pend.length := by have := HK.out; omega
              have g1_ := (HS5.out.boxed 2 rfl).free 1
              have HS7 := Aside0.mk (HS5.out.perm [2, 3, 0, 4] 6 (by decide) (by decide))
              clear HS5 HK hlt
              go_wp2
              go_end0
              refine ⟨rfl, ?_⟩
              rw [HST.out]
              have hl := X.settleTo_ok HOK.out.len HOK.out.u8 HOK.out.pend bits s.pend.length
              have hs8 := HS7.out.set 1 (.slice Al ll cl)
              rw [HBB.out, ← HSET.out, HSLL.out] at hs8
              exact X.Lies.mkRdisk ⟨hl.1, HOK.out.n1, HOK.out.n2, hl.2, X.leftTo_ok HOK.out.pend bits _, HOK.out.ghosts, HOK.out.left⟩ hs8
      )
  · have e1 : s.set = true := by rw [Bool.and_eq_true] at hbl; exact hbl.1
    have e2 : s.left = 0 := by rw [Bool.and_eq_true] at hbl; exact of_decide_eq_true hbl.2
    have hset : X.DS.settle s bits = s := by unfold X.DS.settle; rw [hbl]; rfl
    rw [e1] at h3
    rw [e2] at h4
    rw [hset]
    clear hs hok h hr hbl hset e1 e2
    go_enter Try.func44, Try.ntmps44
    go_wp2
    refine bodyPost_ret (results_none rfl _ _ _) rfl ?_
    exact ⟨rfl, HS.out⟩

end Go.Proofs.Ytbpkjkdbijifbaa.U
