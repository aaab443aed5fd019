/- Written by uprint.py (ours) for this seat: functions of the translation as Lean functions, and what their calls do. Not trusted: Lean checks it. -/
import Derived.Test.YtbpkjkdbijifbaaUx0
import Derived.Test.YtbpkjkdbijifbaaUx21
namespace Go.Proofs.Ytbpkjkdbijifbaa.U
open Go.RowKit Go.Proofs.YtbpkjkdbijifbaaW.PrintWords Go.Proofs.YtbpkjkdbijifbaaW.PrintLast Go.Proofs.YtbpkjkdbijifbaaW.PrintMore
attribute [local go_sem] max2_int min2_int max_two min_two max_three min_three max_four min_four   -- for this text's walks alone
set_option linter.unusedVariables false
set_option linter.unusedSimpArgs false

-- GIVEN: function 46 ((*undercroft/undercroftref02.Disk).Crash)
theorem rbit_f (bits : List Int) (k : Nat) (hk : k ≤ 4611686018427387904) : undercroftref02_Bit.f bits (k : Int) = some (X.bitAt bits k) := by
  unfold undercroftref02_Bit.f X.bitAt
  have e1 : wrap64 (Int.tdiv (k : Int) 8) = ((k / 8 : Nat) : Int) := by
    rw [Int.tdiv_eq_ediv_of_nonneg (by omega)]
    unfold wrap64
    omega
  have e2 : Int.tmod (k : Int) 8 = ((k % 8 : Nat) : Int) := by rw [Int.tmod_eq_emod_of_nonneg (by omega)]; omega
  rw [e1, e2]
  by_cases h : k / 8 < bits.length
  · rw [if_pos (by omega), if_pos (by omega), if_pos (by omega), decide_eq_true h]
    rfl
  · rw [if_neg (by omega), decide_eq_false h]
    rfl
theorem sect_at (b : List Int) (x : Nat × List Int) (k : Nat) (bits : List Int) (z : Nat) (h : X.bitAt bits (4 * k + z) = true) : X.sectTo b x k bits (z + 1) = X.lay (X.sectTo b x k bits z) (x.1 * 256 + z * 64) ((x.2.take (z * 64 + 64)).drop (z * 64)) := by
  rw [X.sectTo, if_pos h, show 256 * x.1 + 64 * z = x.1 * 256 + z * 64 from by omega]
  congr 1
  rw [show 64 * z = z * 64 from by omega, List.drop_take, show z * 64 + 64 - z * 64 = 64 from by omega]
set_option maxHeartbeats 8000000 in
set_option maxRecDepth 100000 in
theorem undercroftref02_Disk_Crash.calls (w0 w : World) (L : List X.Res) (p n : Nat) (s : X.DS) (A : Option Addr) (cb : Nat) (bits : List Int) (h : X.Lies w0 w (.rdisk p n s :: L)) (hr : X.Rd w0 L fun w' => (Kd.int .u8).C w' A bits.length bits) (hcb : bits.length ≤ cb) (hpl : s.pend.length ≤ 500000000000) :
    Calls Try.prog 46 #[.pointer (some ⟨p, 0, none⟩), .slice A bits.length cb] w fun e w' => e = .returned (.tuple #[]) ∧ X.Lies w0 w' (.rdisk p n (s.crash bits) :: L) := by
  obtain ⟨v0, v1, v2, hok, hs⟩ := h.rdisk
  obtain ⟨O, hr0⟩ := hs.rowed 1 rfl
  obtain ⟨g0, c0, e0, -⟩ := Kd.R_form hr0 (by rw [hok.len]; have := hok.n1; omega)
  subst e0
  obtain ⟨hC0, hc0, -⟩ := hs.rowC 1 rfl
  have hbl0 : s.bytes.length = 256 * n := hok.len
  rw [hbl0] at hc0 hC0 hs
  obtain ⟨A1, c1, e1, hc1, hA1⟩ := hs.wform 2 rfl
  subst e1
  have hn2 := hok.n2
  have HOK := Aside0.mk hok
  have HA1 := Aside0.mk hA1
  have HW := Aside0.mk hs
  have HRB := Aside0.mk hr
  clear hs hok hr0 hC0 hA1 h hr
  go_enter Try.func46, Try.ntmps46
  go_wp2_with fail
  go_loopg [4, 5] s.pend.length (fun gk v4_ v5_ w' => ∃ k : Nat, v4_ = .int .i64 (k : Int) ∧ Aside0 (gk + k = s.pend.length) ∧ Aside0 (X.Lies w0 w' (.box p #[.slice (some ⟨g0, 0, none⟩) (256 * n) c0, .slice A1 s.pend.length c1, v2, .bool s.set, .int .i64 (s.left : Int)] 42 :: .row (Kd.int .u8) 5 (.slice (some ⟨g0, 0, none⟩) (256 * n) c0) (X.crashTo s.bytes s.pend bits k) :: .wrow (.slice A1 s.pend.length c1) s.pend :: .wrow v2 s.ghosts :: L)))
  case atStart => exact ⟨0, rfl, ⟨by omega⟩, HW⟩
  case round =>
    clear HW
    obtain ⟨k, rfl, HK, HS5⟩ := hrel
    have f1_ := (HS5.out.boxed 0 rfl).cell 1 _ rfl
    by_cases hlt : k < s.pend.length
    · have q3 : decide ((k : Int) < (s.pend.length : Int)) = true := decide_eq_true (by omega)
      have q33 : decide (k < s.pend.length) = true := decide_eq_true hlt
      obtain ⟨x, hx⟩ : ∃ x, s.pend[k]? = some x := ⟨_, List.getElem?_eq_getElem hlt⟩
      obtain ⟨g3, rfl⟩ := HA1.out (by omega)
      have hxw := HOK.out.pend x (List.mem_of_getElem? hx)
      have hxl : x.2.length = 256 := hxw.2.1
      have hx1 : x.1 < n := hxw.1
      have HXW := Aside0.mk hxw
      have HSE : Aside0 (X.crashTo s.bytes s.pend bits (k + 1) = X.sectTo (X.crashTo s.bytes s.pend bits k) x k bits 4) := ⟨by rw [X.crashTo]; simp only [hx]⟩
      have HBN : Aside0 ((X.crashTo s.bytes s.pend bits k).length = 256 * n ∧ X.u8all (X.crashTo s.bytes s.pend bits k) = true) := ⟨X.crashTo_ok HOK.out.len HOK.out.u8 HOK.out.pend bits k⟩
      obtain ⟨C, hC⟩ : ∃ C, C = X.crashTo s.bytes s.pend bits k := ⟨_, rfl⟩
      rw [← hC] at HS5 HSE HBN
      clear hxw hC
      go_wp2_with fail
      obtain ⟨ko, rfl⟩ : ∃ ko, gk = ko + 1 := ⟨gk - 1, by have := HK.out; omega⟩
      go_loopg [5] 4 (fun gq v5_ w' => ∃ z : Nat, v5_ = .int .i64 (z : Int) ∧ Aside0 (gq + z = 4) ∧ Aside0 (X.Lies w0 w' (.box p #[.slice (some ⟨g0, 0, none⟩) (256 * n) c0, .slice (some ⟨g3, 0, none⟩) s.pend.length c1, v2, .bool s.set, .int .i64 (s.left : Int)] 42 :: .row (Kd.int .u8) 5 (.slice (some ⟨g0, 0, none⟩) (256 * n) c0) (X.sectTo C x k bits z) :: .wrow (.slice (some ⟨g3, 0, none⟩) s.pend.length c1) s.pend :: .wrow v2 s.ghosts :: L)))
      case atStart => exact ⟨0, rfl, ⟨by omega⟩, HS5⟩
      case round =>
        clear HS5 f1_
        obtain ⟨z, rfl, HZ, HS5⟩ := hrel
        by_cases hz : z < 4
        · have q4 : decide ((z : Int) < 4) = true := decide_eq_true (by omega)
          have q44 : decide (z < 4) = true := decide_eq_true hz
          have HBB := Aside0.mk (X.sectTo_ok HBN.out.1 HBN.out.2 HXW.out k bits z (by omega))
          have HBT : Aside0 (X.bitAt bits (4 * k + z) = true → X.sectTo C x k bits (z + 1) = X.lay (X.sectTo C x k bits z) (x.1 * 256 + z * 64) ((x.2.take (z * 64 + 64)).drop (z * 64))) := ⟨sect_at C x k bits z⟩
          have HBF : Aside0 (X.bitAt bits (4 * k + z) = false → X.sectTo C x k bits (z + 1) = X.sectTo C x k bits z) := ⟨fun h => by rw [X.sectTo, if_neg (by rw [h]; decide)]⟩
          have HBC := Aside0.mk (undercroftref02_Bit.calls A cb bits (4 * (k : Int) + (z : Int)) (X.bitAt bits (4 * k + z)) wr (HRB.out wr HS5.out.tail.tail.tail.tail) hcb (by have h := rbit_f bits (4 * k + z) (by omega); rw [show (4 * (k : Int) + (z : Int)) = ((4 * k + z : Nat) : Int) from by omega]; exact h))
          obtain ⟨B, hB⟩ : ∃ B, B = X.sectTo C x k bits z := ⟨_, rfl⟩
          rw [← hB] at HS5 HBB HBT HBF
          have e1_ : wrap64 ((x.1 : Int) * 256) = (x.1 : Int) * 256 := by unfold wrap64; omega
          have e3_ : wrap64 ((x.1 : Int) * 256 + (z : Int) * 64) = (x.1 : Int) * 256 + (z : Int) * 64 := by unfold wrap64; omega
          have e5_ : wrap64 ((z : Int) * 64) = (z : Int) * 64 := by unfold wrap64; omega
          have e6_ : wrap64 ((z : Int) * 64 + 64) = (z : Int) * 64 + 64 := by unfold wrap64; omega
          have s1_ : (0 : Int) ≤ (x.1 : Int) * 256 + (z : Int) * 64 := by omega
          have s2_ : (x.1 : Int) * 256 + (z : Int) * 64 ≤ 256 * (n : Int) := by omega
          have s4_ : ((x.1 : Int) * 256 + (z : Int) * 64).toNat = x.1 * 256 + z * 64 := by omega
          have s3_ : ¬ c0 = x.1 * 256 + z * 64 := by omega
          clear hB
          go_wp2_with fail
          refine HBC.out.mono ?_
          rintro e w6 ⟨rfl, hd⟩
          have HS6 := Aside0.mk (HS5.out.grow hd.below)
          clear HS5 HBC hd
          rcases hbit : X.bitAt bits (4 * k + z) with _ | _
          · go_wp2_with fail
            cases gk with
            | zero => exact absurd HZ.out (by omega)
            | succ k1 =>
              go_roundg k1
              case measure => omega
              case rel => exact ⟨z + 1, by go_num, ⟨by have := HZ.out; omega⟩, ⟨by rw [HBF.out hbit]; exact HS6.out⟩⟩
          · obtain ⟨g4, o4, c4, k0, k1, hc4, hC4⟩ := HS6.out.wat 2 rfl hx
            rw [hxl] at k1 hc4 hC4
            have t3_ : (z : Int) * 64 + 64 ≤ (c4 : Int) := by omega
            have t5_ : ¬ c4 = z * 64 := by omega
            have t1_ : (0 : Int) ≤ (z : Int) * 64 := by omega
            have t2_ : (0 : Int) ≤ (z : Int) * 64 + 64 := by omega
            have t7_ : max ((z : Int) * 64 + 64) 0 = (z : Int) * 64 + 64 := by omega
            have t8_ : (z : Int) * 64 ≤ (z : Int) * 64 + 64 := by omega
            have t9_ : ((z : Int) * 64).toNat = z * 64 := by omega
            have t10_ : ((z : Int) * 64 + 64).toNat = z * 64 + 64 := by omega
            have t6_ : z * 64 + 64 - z * 64 = 64 := by omega
            have HX := Aside0.mk (And.intro hc4 (X.C_sub' (a := z * 64) (m := 64) hC4 (by omega)))
            have HBN := HBB
            have HS5 := HS6
            clear hc4 hC4 HS6 HBB HBF
            go_wp2_with fail
            refine start_ (n := 32) (S := (fun w' => w'.cell? ⟨p, 0, none⟩ = some (.slice (some ⟨g0, 0, none⟩) (256 * n) c0) ∧ w'.cell? ⟨p, 1, none⟩ = some (.slice (some ⟨g3, 0, none⟩) s.pend.length c1) ∧ w'.cell? ⟨g3, k * 2, none⟩ = some (.int .i64 (x.1 : Int)) ∧ w'.cell? ⟨g3, k * 2 + 1, none⟩ = some (.slice (some ⟨g4, o4, none⟩) 256 c4))) (ds := [31]) #[false, false, false, false, false, false, false, false, false, false, false, false, false, false, false, false, false, false, false, false, false, false, false, false, false, false, false, false, false, false, false, false] (by kernel_rfl) rfl rfl ⟨(HS5.out.boxed 0 rfl).cell 0 _ rfl, (HS5.out.boxed 0 rfl).cell 1 _ rfl, k0, k1⟩ (fun hHeld => ?_)
            have HSa := Aside0.mk (HS5.out.drew)
            have HCa := Aside0.mk (Kd.C_below HX.out.2 (below_drew1 (Below.refl _ _)))
            generalize World.drew _ = wa at *
            clear HS5
            refine pure_ (i := 0) (N := some 25) (v := ?_) (a' := ?_) #[true, false, false, false, false, false, false, false, false, false, false, false, false, false, false, false, false, false, false, false, false, false, false, false, false, false, false, false, false, false, false, false] rfl rfl (by kernel_rfl) (fun _ _ _ h => h) (Or.inl ⟨by rfl, ?_⟩) ?_ ?_
            rotate_left
            · intro w' 
              go_simp
              with_reducible rfl
            rotate_left
            · simp only [Act.put, List.setIfInBounds_toArray, List.set_cons_zero, List.set_cons_succ, i64_w, i32_w]
              rfl
            refine pure_ (i := 1) (N := some 26) (v := ?_) (a' := ?_) #[true, true, false, false, false, false, false, false, false, false, false, false, false, false, false, false, false, false, false, false, false, false, false, false, false, false, false, false, false, false, false, false] rfl rfl (by kernel_rfl) (fun _ _ _ h => h) (Or.inl ⟨by rfl, ?_⟩) ?_ ?_
            rotate_left
            · intro w' 
              go_simp
              with_reducible rfl
            rotate_left
            · simp only [Act.put, List.setIfInBounds_toArray, List.set_cons_zero, List.set_cons_succ, i64_w, i32_w]
              rfl
            refine pure_ (i := 2) (N := some 27) (v := ?_) (a' := ?_) #[true, true, true, false, false, false, false, false, false, false, false, false, false, false, false, false, false, false, false, false, false, false, false, false, false, false, false, false, false, false, false, false] rfl rfl (by kernel_rfl) (fun _ _ _ h => h) (Or.inl ⟨by rfl, ?_⟩) ?_ ?_
            rotate_left
            · intro w' 
              go_simp
              with_reducible rfl
            rotate_left
            · simp only [Act.put, List.setIfInBounds_toArray, List.set_cons_zero, List.set_cons_succ, i64_w, i32_w]
              rfl
            refine take_ (i := 3) (N := some 28) (v := ?_) (a' := ?_) #[true, true, true, true, false, false, false, false, false, false, false, false, false, false, false, false, false, false, false, false, false, false, false, false, false, false, false, false, false, false, false, false] rfl rfl (by kernel_rfl) (fun _ _ _ h => h) (Or.inl ⟨by rfl, ?_⟩) hHeld ?_ ?_
            rotate_left
            · intro w' hs_
              obtain ⟨hs0, hs1, hs2, hs3⟩ := hs_
              go_simp
              with_reducible rfl
            rotate_left
            · simp only [Act.put, List.setIfInBounds_toArray, List.set_cons_zero, List.set_cons_succ, i64_w, i32_w]
              rfl
            refine pure_ (i := 4) (N := some 29) (v := ?_) (a' := ?_) #[true, true, true, true, true, false, false, false, false, false, false, false, false, false, false, false, false, false, false, false, false, false, false, false, false, false, false, false, false, false, false, false] rfl rfl (by kernel_rfl) (fun _ _ _ h => h) (Or.inl ⟨by rfl, ?_⟩) ?_ ?_
            rotate_left
            · intro w' 
              go_simp
              with_reducible rfl
            rotate_left
            · simp only [Act.put, List.setIfInBounds_toArray, List.set_cons_zero, List.set_cons_succ, i64_w, i32_w]
              rfl
            refine pure_ (i := 5) (N := some 30) (v := ?_) (a' := ?_) #[true, true, true, true, true, true, false, false, false, false, false, false, false, false, false, false, false, false, false, false, false, false, false, false, false, false, false, false, false, false, false, false] rfl rfl (by kernel_rfl) (fun _ _ _ h => h) (Or.inl ⟨by rfl, ?_⟩) ?_ ?_
            rotate_left
            · intro w' 
              go_simp
              with_reducible rfl
            rotate_left
            · simp only [Act.put, List.setIfInBounds_toArray, List.set_cons_zero, List.set_cons_succ, i64_w, i32_w]
              rfl
            refine pure_ (i := 6) (N := some 31) (v := ?_) (a' := ?_) #[true, true, true, true, true, true, true, false, false, false, false, false, false, false, false, false, false, false, false, false, false, false, false, false, false, false, false, false, false, false, false, false] rfl rfl (by kernel_rfl) (fun _ _ _ h => h) (Or.inl ⟨by rfl, ?_⟩) ?_ ?_
            rotate_left
            · intro w' 
              go_simp
              with_reducible rfl
            rotate_left
            · simp only [Act.put, List.setIfInBounds_toArray, List.set_cons_zero, List.set_cons_succ, i64_w, i32_w]
              rfl
            refine take_ (i := 7) (N := some 32) (v := ?_) (a' := ?_) #[true, true, true, true, true, true, true, true, false, false, false, false, false, false, false, false, false, false, false, false, false, false, false, false, false, false, false, false, false, false, false, false] rfl rfl (by kernel_rfl) (fun _ _ _ h => h) (Or.inl ⟨by rfl, ?_⟩) hHeld ?_ ?_
            rotate_left
            · intro w' hs_
              obtain ⟨hs0, hs1, hs2, hs3⟩ := hs_
              go_simp
              with_reducible rfl
            rotate_left
            · simp only [Act.put, List.setIfInBounds_toArray, List.set_cons_zero, List.set_cons_succ, i64_w, i32_w]
              rfl
            refine pure_ (i := 8) (N := some 33) (v := ?_) (a' := ?_) #[true, true, true, true, true, true, true, true, true, false, false, false, false, false, false, false, false, false, false, false, false, false, false, false, false, false, false, false, false, false, false, false] rfl rfl (by kernel_rfl) (fun _ _ _ h => h) (Or.inl ⟨by rfl, ?_⟩) ?_ ?_
            rotate_left
            · intro w' 
              go_simp
              with_reducible rfl
            rotate_left
            · simp only [Act.put, List.setIfInBounds_toArray, List.set_cons_zero, List.set_cons_succ, i64_w, i32_w]
              rfl
            refine pure_ (i := 9) (N := some 34) (v := ?_) (a' := ?_) #[true, true, true, true, true, true, true, true, true, true, false, false, false, false, false, false, false, false, false, false, false, false, false, false, false, false, false, false, false, false, false, false] rfl rfl (by kernel_rfl) (fun _ _ _ h => h) (Or.inl ⟨by rfl, ?_⟩) ?_ ?_
            rotate_left
            · intro w' 
              go_simp
              with_reducible rfl
            rotate_left
            · simp only [Act.put, List.setIfInBounds_toArray, List.set_cons_zero, List.set_cons_succ, i64_w, i32_w]
              rfl
            refine pure_ (i := 10) (N := some 35) (v := ?_) (a' := ?_) #[true, true, true, true, true, true, true, true, true, true, true, false, false, false, false, false, false, false, false, false, false, false, false, false, false, false, false, false, false, false, false, false] rfl rfl (by kernel_rfl) (fun _ _ _ h => h) (Or.inl ⟨by rfl, ?_⟩) ?_ ?_
            rotate_left
            · intro w' 
              go_simp
              with_reducible rfl
            rotate_left
            · simp only [Act.put, List.setIfInBounds_toArray, List.set_cons_zero, List.set_cons_succ, i64_w, i32_w]
              rfl
            refine take_ (i := 11) (N := some 36) (v := .int .i64 (x.1 : Int)) (a' := ?_) #[true, true, true, true, true, true, true, true, true, true, true, true, false, false, false, false, false, false, false, false, false, false, false, false, false, false, false, false, false, false, false, false] rfl rfl (by kernel_rfl) (fun _ _ _ h => h) (Or.inl ⟨by rfl, ?_⟩) hHeld ?_ ?_
            · intro w' hs_
              obtain ⟨hs0, hs1, hs2, hs3⟩ := hs_
              exact (by go_simp; done)
            rotate_left
            · simp only [Act.put, List.setIfInBounds_toArray, List.set_cons_zero, List.set_cons_succ, i64_w, i32_w]
              rfl
            refine pure_ (i := 12) (N := some 37) (v := ?_) (a' := ?_) #[true, true, true, true, true, true, true, true, true, true, true, true, true, false, false, false, false, false, false, false, false, false, false, false, false, false, false, false, false, false, false, false] rfl rfl (by kernel_rfl) (fun _ _ _ h => h) (Or.inl ⟨by rfl, ?_⟩) ?_ ?_
            rotate_left
            · intro w' 
              go_simp
              with_reducible rfl
            rotate_left
            · simp only [Act.put, List.setIfInBounds_toArray, List.set_cons_zero, List.set_cons_succ, i64_w, i32_w]
              rfl
            refine pure_ (i := 13) (N := some 38) (v := ?_) (a' := ?_) #[true, true, true, true, true, true, true, true, true, true, true, true, true, true, false, false, false, false, false, false, false, false, false, false, false, false, false, false, false, false, false, false] rfl rfl (by kernel_rfl) (fun _ _ _ h => h) (Or.inl ⟨by rfl, ?_⟩) ?_ ?_
            rotate_left
            · intro w' 
              go_simp
              with_reducible rfl
            rotate_left
            · simp only [Act.put, List.setIfInBounds_toArray, List.set_cons_zero, List.set_cons_succ, i64_w, i32_w]
              rfl
            refine pure_ (i := 14) (N := some 39) (v := ?_) (a' := ?_) #[true, true, true, true, true, true, true, true, true, true, true, true, true, true, true, false, false, false, false, false, false, false, false, false, false, false, false, false, false, false, false, false] rfl rfl (by kernel_rfl) (fun _ _ _ h => h) (Or.inl ⟨by rfl, ?_⟩) ?_ ?_
            rotate_left
            · intro w' 
              go_simp
              with_reducible rfl
            rotate_left
            · simp only [Act.put, List.setIfInBounds_toArray, List.set_cons_zero, List.set_cons_succ, i64_w, i32_w]
              rfl
            refine pure_ (i := 15) (N := some 40) (v := ?_) (a' := ?_) #[true, true, true, true, true, true, true, true, true, true, true, true, true, true, true, true, false, false, false, false, false, false, false, false, false, false, false, false, false, false, false, false] rfl rfl (by kernel_rfl) (fun _ _ _ h => h) (Or.inl ⟨by rfl, ?_⟩) ?_ ?_
            rotate_left
            · intro w' 
              go_simp
              with_reducible rfl
            rotate_left
            · simp only [Act.put, List.setIfInBounds_toArray, List.set_cons_zero, List.set_cons_succ, i64_w, i32_w]
              rfl
            refine pure_ (i := 16) (N := some 41) (v := .slice (some ⟨g0, x.1 * 256 + z * 64, none⟩) (256 * n - (x.1 * 256 + z * 64)) (c0 - (x.1 * 256 + z * 64))) (a' := ?_) #[true, true, true, true, true, true, true, true, true, true, true, true, true, true, true, true, true, false, false, false, false, false, false, false, false, false, false, false, false, false, false, false] rfl rfl (by kernel_rfl) (fun _ _ _ h => h) (Or.inl ⟨by rfl, ?_⟩) ?_ ?_
            · intro w' 
              exact (by go_simp; done)
            rotate_left
            · simp only [Act.put, List.setIfInBounds_toArray, List.set_cons_zero, List.set_cons_succ, i64_w, i32_w]
              rfl
            refine pure_ (i := 17) (N := some 42) (v := ?_) (a' := ?_) #[true, true, true, true, true, true, true, true, true, true, true, true, true, true, true, true, true, true, false, false, false, false, false, false, false, false, false, false, false, false, false, false] rfl rfl (by kernel_rfl) (fun _ _ _ h => h) (Or.inl ⟨by rfl, ?_⟩) ?_ ?_
            rotate_left
            · intro w' 
              go_simp
              with_reducible rfl
            rotate_left
            · simp only [Act.put, List.setIfInBounds_toArray, List.set_cons_zero, List.set_cons_succ, i64_w, i32_w]
              rfl
            refine pure_ (i := 18) (N := some 43) (v := ?_) (a' := ?_) #[true, true, true, true, true, true, true, true, true, true, true, true, true, true, true, true, true, true, true, false, false, false, false, false, false, false, false, false, false, false, false, false] rfl rfl (by kernel_rfl) (fun _ _ _ h => h) (Or.inl ⟨by rfl, ?_⟩) ?_ ?_
            rotate_left
            · intro w' 
              go_simp
              with_reducible rfl
            rotate_left
            · simp only [Act.put, List.setIfInBounds_toArray, List.set_cons_zero, List.set_cons_succ, i64_w, i32_w]
              rfl
            refine pure_ (i := 19) (N := some 44) (v := ?_) (a' := ?_) #[true, true, true, true, true, true, true, true, true, true, true, true, true, true, true, true, true, true, true, true, false, false, false, false, false, false, false, false, false, false, false, false] rfl rfl (by kernel_rfl) (fun _ _ _ h => h) (Or.inl ⟨by rfl, ?_⟩) ?_ ?_
            rotate_left
            · intro w' 
              go_simp
              with_reducible rfl
            rotate_left
            · simp only [Act.put, List.setIfInBounds_toArray, List.set_cons_zero, List.set_cons_succ, i64_w, i32_w]
              rfl
            refine take_ (i := 20) (N := some 45) (v := ?_) (a' := ?_) #[true, true, true, true, true, true, true, true, true, true, true, true, true, true, true, true, true, true, true, true, true, false, false, false, false, false, false, false, false, false, false, false] rfl rfl (by kernel_rfl) (fun _ _ _ h => h) (Or.inl ⟨by rfl, ?_⟩) hHeld ?_ ?_
            rotate_left
            · intro w' hs_
              obtain ⟨hs0, hs1, hs2, hs3⟩ := hs_
              go_simp
              with_reducible rfl
            rotate_left
            · simp only [Act.put, List.setIfInBounds_toArray, List.set_cons_zero, List.set_cons_succ, i64_w, i32_w]
              rfl
            refine pure_ (i := 21) (N := some 46) (v := ?_) (a' := ?_) #[true, true, true, true, true, true, true, true, true, true, true, true, true, true, true, true, true, true, true, true, true, true, false, false, false, false, false, false, false, false, false, false] rfl rfl (by kernel_rfl) (fun _ _ _ h => h) (Or.inl ⟨by rfl, ?_⟩) ?_ ?_
            rotate_left
            · intro w' 
              go_simp
              with_reducible rfl
            rotate_left
            · simp only [Act.put, List.setIfInBounds_toArray, List.set_cons_zero, List.set_cons_succ, i64_w, i32_w]
              rfl
            refine pure_ (i := 22) (N := some 47) (v := ?_) (a' := ?_) #[true, true, true, true, true, true, true, true, true, true, true, true, true, true, true, true, true, true, true, true, true, true, true, false, false, false, false, false, false, false, false, false] rfl rfl (by kernel_rfl) (fun _ _ _ h => h) (Or.inl ⟨by rfl, ?_⟩) ?_ ?_
            rotate_left
            · intro w' 
              go_simp
              with_reducible rfl
            rotate_left
            · simp only [Act.put, List.setIfInBounds_toArray, List.set_cons_zero, List.set_cons_succ, i64_w, i32_w]
              rfl
            refine pure_ (i := 23) (N := some 48) (v := ?_) (a' := ?_) #[true, true, true, true, true, true, true, true, true, true, true, true, true, true, true, true, true, true, true, true, true, true, true, true, false, false, false, false, false, false, false, false] rfl rfl (by kernel_rfl) (fun _ _ _ h => h) (Or.inl ⟨by rfl, ?_⟩) ?_ ?_
            rotate_left
            · intro w' 
              go_simp
              with_reducible rfl
            rotate_left
            · simp only [Act.put, List.setIfInBounds_toArray, List.set_cons_zero, List.set_cons_succ, i64_w, i32_w]
              rfl
            refine take_ (i := 24) (N := some 49) (v := .slice (some ⟨g4, o4, none⟩) 256 c4) (a' := ?_) #[true, true, true, true, true, true, true, true, true, true, true, true, true, true, true, true, true, true, true, true, true, true, true, true, true, false, false, false, false, false, false, false] rfl rfl (by kernel_rfl) (fun _ _ _ h => h) (Or.inl ⟨by rfl, ?_⟩) hHeld ?_ ?_
            · intro w' hs_
              obtain ⟨hs0, hs1, hs2, hs3⟩ := hs_
              exact (by go_simp; done)
            rotate_left
            · simp only [Act.put, List.setIfInBounds_toArray, List.set_cons_zero, List.set_cons_succ, i64_w, i32_w]
              rfl
            refine pure_ (i := 25) (N := some 50) (v := ?_) (a' := ?_) #[true, true, true, true, true, true, true, true, true, true, true, true, true, true, true, true, true, true, true, true, true, true, true, true, true, true, false, false, false, false, false, false] rfl rfl (by kernel_rfl) (fun _ _ _ h => h) (Or.inl ⟨by rfl, ?_⟩) ?_ ?_
            rotate_left
            · intro w' 
              go_simp
              with_reducible rfl
            rotate_left
            · simp only [Act.put, List.setIfInBounds_toArray, List.set_cons_zero, List.set_cons_succ, i64_w, i32_w]
              rfl
            refine pure_ (i := 26) (N := some 51) (v := ?_) (a' := ?_) #[true, true, true, true, true, true, true, true, true, true, true, true, true, true, true, true, true, true, true, true, true, true, true, true, true, true, true, false, false, false, false, false] rfl rfl (by kernel_rfl) (fun _ _ _ h => h) (Or.inl ⟨by rfl, ?_⟩) ?_ ?_
            rotate_left
            · intro w' 
              go_simp
              with_reducible rfl
            rotate_left
            · simp only [Act.put, List.setIfInBounds_toArray, List.set_cons_zero, List.set_cons_succ, i64_w, i32_w]
              rfl
            refine pure_ (i := 27) (N := some 52) (v := ?_) (a' := ?_) #[true, true, true, true, true, true, true, true, true, true, true, true, true, true, true, true, true, true, true, true, true, true, true, true, true, true, true, true, false, false, false, false] rfl rfl (by kernel_rfl) (fun _ _ _ h => h) (Or.inl ⟨by rfl, ?_⟩) ?_ ?_
            rotate_left
            · intro w' 
              go_simp
              with_reducible rfl
            rotate_left
            · simp only [Act.put, List.setIfInBounds_toArray, List.set_cons_zero, List.set_cons_succ, i64_w, i32_w]
              rfl
            refine pure_ (i := 28) (N := some 53) (v := ?_) (a' := ?_) #[true, true, true, true, true, true, true, true, true, true, true, true, true, true, true, true, true, true, true, true, true, true, true, true, true, true, true, true, true, false, false, false] rfl rfl (by kernel_rfl) (fun _ _ _ h => h) (Or.inl ⟨by rfl, ?_⟩) ?_ ?_
            rotate_left
            · intro w' 
              go_simp
              with_reducible rfl
            rotate_left
            · simp only [Act.put, List.setIfInBounds_toArray, List.set_cons_zero, List.set_cons_succ, i64_w, i32_w]
              rfl
            refine pure_ (i := 29) (N := some 54) (v := ?_) (a' := ?_) #[true, true, true, true, true, true, true, true, true, true, true, true, true, true, true, true, true, true, true, true, true, true, true, true, true, true, true, true, true, true, false, false] rfl rfl (by kernel_rfl) (fun _ _ _ h => h) (Or.inl ⟨by rfl, ?_⟩) ?_ ?_
            rotate_left
            · intro w' 
              go_simp
              with_reducible rfl
            rotate_left
            · simp only [Act.put, List.setIfInBounds_toArray, List.set_cons_zero, List.set_cons_succ, i64_w, i32_w]
              rfl
            refine pure_ (i := 30) (N := some 55) (v := .slice (some ⟨g4, o4 + z * 64, none⟩) 64 (c4 - z * 64)) (a' := ?_) #[true, true, true, true, true, true, true, true, true, true, true, true, true, true, true, true, true, true, true, true, true, true, true, true, true, true, true, true, true, true, true, false] rfl rfl (by kernel_rfl) (fun _ _ _ h => h) (Or.inl ⟨by rfl, ?_⟩) ?_ ?_
            · intro w' 
              exact (by go_simp; done)
            rotate_left
            · simp only [Act.put, List.setIfInBounds_toArray, List.set_cons_zero, List.set_cons_succ, i64_w, i32_w]
              rfl
            refine last_ (i := 31) (N := some 56) #[true, true, true, true, true, true, true, true, true, true, true, true, true, true, true, true, true, true, true, true, true, true, true, true, true, true, true, true, true, true, true, true] rfl rfl (by kernel_rfl) (by decide) (fun K hK => ?_)
            obtain ⟨ok, hR, hfr, hadd⟩ := (HSa.out.perm [1, 0, 2, 3] 4 (by decide) (by decide)).grown1
            refine X.copy_step (P := Try.prog) (w0 := wa) .u8 0 (by rfl) rfl (.tmp 41) (.tmp 55) 22 22 5 rfl Try.underlying22 (by obtain ⟨i, hi, _, hs, _⟩ := info_parts info5; rw [hi]; exact congrArg some hs) g0 (256 * n) c0 (x.1 * 256 + z * 64) _ _ (some ⟨g4, o4 + z * 64, none⟩) 64 _ B ((x.2.take (z * 64 + 64)).drop (z * 64)) ok (by rfl) (by first | rfl | (simp only [Nat.add_sub_cancel_left]; rfl)) hR HCa.out (by omega) (by omega) (Below.refl 0 wa) (Nat.zero_le _) ?_
            intro w6 hr6 hb6 hg6
            have HS6 := Aside0.mk ((hadd hr6 hg6).perm [1, 0, 2, 3] 4 (by decide) (by decide))
            clear hr6 hb6 hg6 hadd hR hfr HSa HCa hHeld
            refine hK.out _ _ ?_
            clear hK K
            refine done_ (by kernel_rfl) ?_
            go_wp2_with fail
            cases gk with
            | zero => exact absurd HZ.out (by omega)
            | succ k1 =>
              go_roundg k1
              case measure => omega
              case rel => exact ⟨z + 1, by go_num, ⟨by have := HZ.out; omega⟩, ⟨by rw [HBT.out hbit]; exact HS6.out⟩⟩
        · have q4 : decide ((z : Int) < 4) = false := decide_eq_false (by omega)
          have q44 : decide (z < 4) = false := decide_eq_false hz
          obtain rfl : z = 4 := by have := HZ.out; omega
          rw [← HSE.out] at HS5
          clear HZ hz
          go_wp2_with fail
          go_roundg ko
          case measure => omega
          case rel => exact ⟨k + 1, by go_num, ⟨by have := HK.out; omega⟩, HS5⟩
    · have q3 : decide ((k : Int) < (s.pend.length : Int)) = false := decide_eq_false (by omega)
      have q33 : decide (k < s.pend.length) = false := decide_eq_false hlt
      obtain rfl : k = s.pend.length := by have := HK.out; omega
      have f0_ := (HS5.out.boxed 0 rfl).free 1
      have k2_ := (HS5.out.boxed 0 rfl).cell 2 _ rfl
      have k3_ := (HS5.out.boxed 0 rfl).cell 3 _ rfl
      have k4_ := (HS5.out.boxed 0 rfl).cell 4 _ rfl
      have f2_ := (HS5.out.boxed 0 rfl).free 2
      have f3_ := (HS5.out.boxed 0 rfl).free 3
      have f4_ := (HS5.out.boxed 0 rfl).free 4
      have HS7 := Aside0.mk HS5.out
      clear HS5 HK hlt
      go_wp2
      go_end0
      refine ⟨rfl, ?_⟩
      have h1 := HS7.out.set 1 (.slice none 0 0)
      have h2 := X.Lies.set h1 2 (.slice none 0 0)
      have h3 := X.Lies.set h2 3 (.bool false)
      have h4 := X.Lies.set h3 4 (.int .i64 0)
      have hs8 := ((h4.wnil).wnil).perm [2, 3, 0, 1] 6 (by decide) (by decide)
      have hl := X.crashTo_ok HOK.out.len HOK.out.u8 HOK.out.pend bits s.pend.length
      exact X.Lies.mkRdisk ⟨hl.1, HOK.out.n1, HOK.out.n2, hl.2, fun _ h => (nomatch h), fun _ h => (nomatch h), Nat.zero_le _⟩ hs8

end Go.Proofs.Ytbpkjkdbijifbaa.U
