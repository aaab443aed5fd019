/- Ux35: what this claim uses. Laid by slim.py (ours). -/
import Derived.Test.YtlbfpjhnpnbikaaKUx0
import Derived.Test.YtlbfpjhnpnbikaaKUx23
import Derived.Test.YtlbfpjhnpnbikaaKUx24
namespace Go.Proofs.Ytlbfpjhnpnbikaa.U
open Go.RowKit Go.Proofs.YtlbfpjhnpnbikaaW.PrintWords Go.Proofs.YtlbfpjhnpnbikaaW.PrintLast Go.Proofs.YtlbfpjhnpnbikaaW.PrintMore
attribute [local go_sem] max2_int min2_int max_two min_two max_three min_three max_four min_four
set_option linter.unusedVariables false
set_option linter.unusedSimpArgs false
theorem lays_take {l : List (Nat × List Int)} {b : List Int} {k : Nat} {x : Nat × List Int} (hk : l[k]? = some x) : X.laysTo b (l.take (k + 1)) = X.lay (X.laysTo b (l.take k)) (x.1 * 256) x.2 := by
  rw [X.take_snoc hk, X.laysTo_snoc, Nat.mul_comm]
set_option maxHeartbeats 8000000 in
set_option maxRecDepth 100000 in
theorem undercroftref02_Disk_Flush.calls (w0 w : World) (L : List X.Res) (p n : Nat) (s : X.DS) (h : X.Lies w0 w (.rdisk p n s :: L)) (hpl : s.pend.length ≤ 500000000000) :
    Calls Try.prog 54 #[.pointer (some ⟨p, 0, none⟩)] w fun e w' => e = .returned (.tuple #[]) ∧ X.Lies w0 w' (.rdisk p n s.flush :: L) := by
  have HS := Aside0.mk h
  clear h
  go_enter Try.func54, Try.ntmps54
  go_wp2_with fail
  refine (undercroftref02_Disk_blown.calls w0 w _ p n s HS.out).mono ?_
  rintro e w3 ⟨rfl, hs⟩
  clear HS
  rcases hbl : s.blown with _ | _
  · rw [spend_eq' _ hbl] at hs
    obtain ⟨v0, v1, v2, hok, hs⟩ := hs.rdisk
    obtain ⟨sl, hsl⟩ : ∃ sl, sl = if s.set = true then s.left - 1 else s.left := ⟨_, rfl⟩
    simp only at hs hok
    rw [← hsl] at hs hok
    obtain ⟨O, hr0⟩ := hs.rowed 1 rfl
    obtain ⟨g0, c0, e0, -⟩ := Kd.R_form hr0 (by rw [hok.len]; have := hok.n1; omega)
    subst e0
    obtain ⟨hC0, hc0, -⟩ := hs.rowC 1 rfl
    have hbl0 : s.bytes.length = 256 * n := hok.len
    rw [hbl0] at hc0 hC0 hs
    obtain ⟨A1, c1, e1, hc1, hA1⟩ := hs.wform 2 rfl
    subst e1
    have hn2 := hok.n2
    have HOK := Aside0.mk hok
    have HA1 := Aside0.mk hA1
    have HE := Aside0.mk hsl
    have HW := Aside0.mk hs
    clear hs hok hr0 hC0 hA1 hsl
    go_wp2_with fail
    go_loopg [2] s.pend.length (fun gk v2_ w' => ∃ k : Nat, v2_ = .int .i64 (k : Int) ∧ Aside0 (gk + k = s.pend.length) ∧ Aside0 (X.Lies w0 w' (.box p #[.slice (some ⟨g0, 0, none⟩) (256 * n) c0, .slice A1 s.pend.length c1, v2, .bool s.set, .int .i64 (sl : Int)] 75 :: .row (Kd.int .u8) 5 (.slice (some ⟨g0, 0, none⟩) (256 * n) c0) (X.laysTo s.bytes (s.pend.take k)) :: .wrow (.slice A1 s.pend.length c1) s.pend :: .wrow v2 s.ghosts :: L)))
    case atStart => exact ⟨0, rfl, ⟨by omega⟩, HW⟩
    case round =>
      clear HW
      obtain ⟨k, rfl, HK, HS5⟩ := hrel
      have f1_ := (HS5.out.boxed 0 rfl).cell 1 _ rfl
      by_cases hlt : k < s.pend.length
      · have q3 : decide ((k : Int) < (s.pend.length : Int)) = true := decide_eq_true (by omega)
        have q33 : decide (k < s.pend.length) = true := decide_eq_true hlt
        obtain ⟨x, hx⟩ : ∃ x, s.pend[k]? = some x := ⟨_, List.getElem?_eq_getElem hlt⟩
        obtain ⟨g3, rfl⟩ := HA1.out (by omega)
        obtain ⟨g4, o4, c4, k0, k1, hc4, hC4⟩ := HS5.out.wat 2 rfl hx
        have hxw := HOK.out.pend x (List.mem_of_getElem? hx)
        have hxl : x.2.length = 256 := hxw.2.1
        have hx1 : x.1 < n := hxw.1
        rw [hxl] at k1 hc4 hC4
        have HX := Aside0.mk (And.intro hc4 hC4)
        have e1_ : wrap64 ((x.1 : Int) * 256) = (x.1 : Int) * 256 := by unfold wrap64; omega
        have s1_ : (0 : Int) ≤ (x.1 : Int) * 256 := by omega
        have s2_ : (x.1 : Int) * 256 ≤ 256 * (n : Int) := by omega
        have s4_ : ((x.1 : Int) * 256).toNat = x.1 * 256 := by omega
        have s3_ : ¬ c0 = x.1 * 256 := by omega
        have HLT := Aside0.mk (lays_take (b := s.bytes) hx)
        obtain ⟨B, hB⟩ : ∃ B, B = X.laysTo s.bytes (s.pend.take k) := ⟨_, rfl⟩
        rw [← hB] at HS5 HLT
        have HBN : Aside0 (B.length = 256 * n ∧ X.u8all B = true) := ⟨by rw [hB]; exact X.laysTo_ok _ _ HOK.out.len HOK.out.u8 (fun y hy => HOK.out.pend y (List.mem_of_mem_take hy))⟩
        clear hc4 hC4 hxw hB
        go_wp2_with fail
        clear f1_
        refine start_ (n := 23) (S := (fun w' => w'.cell? ⟨p, 0, none⟩ = some (.slice (some ⟨g0, 0, none⟩) (256 * n) c0) ∧ w'.cell? ⟨p, 1, none⟩ = some (.slice (some ⟨g3, 0, none⟩) s.pend.length c1) ∧ w'.cell? ⟨g3, k * 2, none⟩ = some (.int .i64 (x.1 : Int)) ∧ w'.cell? ⟨g3, k * 2 + 1, none⟩ = some (.slice (some ⟨g4, o4, none⟩) 256 c4))) (ds := [22]) #[false, false, false, false, false, false, false, false, false, false, false, false, false, false, false, false, false, false, false, false, false, false, false] (by kernel_rfl) rfl rfl ⟨(HS5.out.boxed 0 rfl).cell 0 _ rfl, (HS5.out.boxed 0 rfl).cell 1 _ rfl, k0, k1⟩ (fun hHeld => ?_)
        have HSa := Aside0.mk (HS5.out.drew)
        have HCa := Aside0.mk (Kd.C_below HX.out.2 (below_drew1 (Below.refl _ _)))
        generalize World.drew _ = wa at *
        clear HS5
        refine pure_ (i := 0) (N := some 14) (v := ?_) (a' := ?_) #[true, false, false, false, false, false, false, false, false, false, false, false, false, false, false, false, false, false, false, false, false, false, false] rfl rfl (by kernel_rfl) (fun _ _ _ h => h) (Or.inl ⟨by rfl, ?_⟩) ?_ ?_
        rotate_left
        · intro w'
          go_simp
          with_reducible rfl
        rotate_left
        · simp only [Act.put, List.setIfInBounds_toArray, List.set_cons_zero, List.set_cons_succ, i64_w, i32_w]
          rfl
        refine pure_ (i := 1) (N := some 15) (v := ?_) (a' := ?_) #[true, true, false, false, false, false, false, false, false, false, false, false, false, false, false, false, false, false, false, false, false, false, false] rfl rfl (by kernel_rfl) (fun _ _ _ h => h) (Or.inl ⟨by rfl, ?_⟩) ?_ ?_
        rotate_left
        · intro w'
          go_simp
          with_reducible rfl
        rotate_left
        · simp only [Act.put, List.setIfInBounds_toArray, List.set_cons_zero, List.set_cons_succ, i64_w, i32_w]
          rfl
        refine pure_ (i := 2) (N := some 16) (v := ?_) (a' := ?_) #[true, true, true, false, false, false, false, false, false, false, false, false, false, false, false, false, false, false, false, false, false, false, false] rfl rfl (by kernel_rfl) (fun _ _ _ h => h) (Or.inl ⟨by rfl, ?_⟩) ?_ ?_
        rotate_left
        · intro w'
          go_simp
          with_reducible rfl
        rotate_left
        · simp only [Act.put, List.setIfInBounds_toArray, List.set_cons_zero, List.set_cons_succ, i64_w, i32_w]
          rfl
        refine take_ (i := 3) (N := some 17) (v := ?_) (a' := ?_) #[true, true, true, true, false, false, false, false, false, false, false, false, false, false, false, false, false, false, false, false, false, false, false] rfl rfl (by kernel_rfl) (fun _ _ _ h => h) (Or.inl ⟨by rfl, ?_⟩) hHeld ?_ ?_
        rotate_left
        · intro w' hs_
          obtain ⟨hs0, hs1, hs2, hs3⟩ := hs_
          go_simp
          with_reducible rfl
        rotate_left
        · simp only [Act.put, List.setIfInBounds_toArray, List.set_cons_zero, List.set_cons_succ, i64_w, i32_w]
          rfl
        refine pure_ (i := 4) (N := some 18) (v := ?_) (a' := ?_) #[true, true, true, true, true, false, false, false, false, false, false, false, false, false, false, false, false, false, false, false, false, false, false] rfl rfl (by kernel_rfl) (fun _ _ _ h => h) (Or.inl ⟨by rfl, ?_⟩) ?_ ?_
        rotate_left
        · intro w'
          go_simp
          with_reducible rfl
        rotate_left
        · simp only [Act.put, List.setIfInBounds_toArray, List.set_cons_zero, List.set_cons_succ, i64_w, i32_w]
          rfl
        refine pure_ (i := 5) (N := some 19) (v := ?_) (a' := ?_) #[true, true, true, true, true, true, false, false, false, false, false, false, false, false, false, false, false, false, false, false, false, false, false] rfl rfl (by kernel_rfl) (fun _ _ _ h => h) (Or.inl ⟨by rfl, ?_⟩) ?_ ?_
        rotate_left
        · intro w'
          go_simp
          with_reducible rfl
        rotate_left
        · simp only [Act.put, List.setIfInBounds_toArray, List.set_cons_zero, List.set_cons_succ, i64_w, i32_w]
          rfl
        refine pure_ (i := 6) (N := some 20) (v := ?_) (a' := ?_) #[true, true, true, true, true, true, true, false, false, false, false, false, false, false, false, false, false, false, false, false, false, false, false] rfl rfl (by kernel_rfl) (fun _ _ _ h => h) (Or.inl ⟨by rfl, ?_⟩) ?_ ?_
        rotate_left
        · intro w'
          go_simp
          with_reducible rfl
        rotate_left
        · simp only [Act.put, List.setIfInBounds_toArray, List.set_cons_zero, List.set_cons_succ, i64_w, i32_w]
          rfl
        refine take_ (i := 7) (N := some 21) (v := ?_) (a' := ?_) #[true, true, true, true, true, true, true, true, false, false, false, false, false, false, false, false, false, false, false, false, false, false, false] rfl rfl (by kernel_rfl) (fun _ _ _ h => h) (Or.inl ⟨by rfl, ?_⟩) hHeld ?_ ?_
        rotate_left
        · intro w' hs_
          obtain ⟨hs0, hs1, hs2, hs3⟩ := hs_
          go_simp
          with_reducible rfl
        rotate_left
        · simp only [Act.put, List.setIfInBounds_toArray, List.set_cons_zero, List.set_cons_succ, i64_w, i32_w]
          rfl
        refine pure_ (i := 8) (N := some 22) (v := ?_) (a' := ?_) #[true, true, true, true, true, true, true, true, true, false, false, false, false, false, false, false, false, false, false, false, false, false, false] rfl rfl (by kernel_rfl) (fun _ _ _ h => h) (Or.inl ⟨by rfl, ?_⟩) ?_ ?_
        rotate_left
        · intro w'
          go_simp
          with_reducible rfl
        rotate_left
        · simp only [Act.put, List.setIfInBounds_toArray, List.set_cons_zero, List.set_cons_succ, i64_w, i32_w]
          rfl
        refine pure_ (i := 9) (N := some 23) (v := ?_) (a' := ?_) #[true, true, true, true, true, true, true, true, true, true, false, false, false, false, false, false, false, false, false, false, false, false, false] rfl rfl (by kernel_rfl) (fun _ _ _ h => h) (Or.inl ⟨by rfl, ?_⟩) ?_ ?_
        rotate_left
        · intro w'
          go_simp
          with_reducible rfl
        rotate_left
        · simp only [Act.put, List.setIfInBounds_toArray, List.set_cons_zero, List.set_cons_succ, i64_w, i32_w]
          rfl
        refine pure_ (i := 10) (N := some 24) (v := ?_) (a' := ?_) #[true, true, true, true, true, true, true, true, true, true, true, false, false, false, false, false, false, false, false, false, false, false, false] rfl rfl (by kernel_rfl) (fun _ _ _ h => h) (Or.inl ⟨by rfl, ?_⟩) ?_ ?_
        rotate_left
        · intro w'
          go_simp
          with_reducible rfl
        rotate_left
        · simp only [Act.put, List.setIfInBounds_toArray, List.set_cons_zero, List.set_cons_succ, i64_w, i32_w]
          rfl
        refine take_ (i := 11) (N := some 25) (v := .int .i64 (x.1 : Int)) (a' := ?_) #[true, true, true, true, true, true, true, true, true, true, true, true, false, false, false, false, false, false, false, false, false, false, false] rfl rfl (by kernel_rfl) (fun _ _ _ h => h) (Or.inl ⟨by rfl, ?_⟩) hHeld ?_ ?_
        · intro w' hs_
          obtain ⟨hs0, hs1, hs2, hs3⟩ := hs_
          exact (by go_simp; done)
        rotate_left
        · simp only [Act.put, List.setIfInBounds_toArray, List.set_cons_zero, List.set_cons_succ, i64_w, i32_w]
          rfl
        refine pure_ (i := 12) (N := some 26) (v := ?_) (a' := ?_) #[true, true, true, true, true, true, true, true, true, true, true, true, true, false, false, false, false, false, false, false, false, false, false] rfl rfl (by kernel_rfl) (fun _ _ _ h => h) (Or.inl ⟨by rfl, ?_⟩) ?_ ?_
        rotate_left
        · intro w'
          go_simp
          with_reducible rfl
        rotate_left
        · simp only [Act.put, List.setIfInBounds_toArray, List.set_cons_zero, List.set_cons_succ, i64_w, i32_w]
          rfl
        refine pure_ (i := 13) (N := some 27) (v := ?_) (a' := ?_) #[true, true, true, true, true, true, true, true, true, true, true, true, true, true, false, false, false, false, false, false, false, false, false] rfl rfl (by kernel_rfl) (fun _ _ _ h => h) (Or.inl ⟨by rfl, ?_⟩) ?_ ?_
        rotate_left
        · intro w'
          go_simp
          with_reducible rfl
        rotate_left
        · simp only [Act.put, List.setIfInBounds_toArray, List.set_cons_zero, List.set_cons_succ, i64_w, i32_w]
          rfl
        refine pure_ (i := 14) (N := some 28) (v := ?_) (a' := ?_) #[true, true, true, true, true, true, true, true, true, true, true, true, true, true, true, false, false, false, false, false, false, false, false] rfl rfl (by kernel_rfl) (fun _ _ _ h => h) (Or.inl ⟨by rfl, ?_⟩) ?_ ?_
        rotate_left
        · intro w'
          go_simp
          with_reducible rfl
        rotate_left
        · simp only [Act.put, List.setIfInBounds_toArray, List.set_cons_zero, List.set_cons_succ, i64_w, i32_w]
          rfl
        refine pure_ (i := 15) (N := some 29) (v := ?_) (a' := ?_) #[true, true, true, true, true, true, true, true, true, true, true, true, true, true, true, true, false, false, false, false, false, false, false] rfl rfl (by kernel_rfl) (fun _ _ _ h => h) (Or.inl ⟨by rfl, ?_⟩) ?_ ?_
        rotate_left
        · intro w'
          go_simp
          with_reducible rfl
        rotate_left
        · simp only [Act.put, List.setIfInBounds_toArray, List.set_cons_zero, List.set_cons_succ, i64_w, i32_w]
          rfl
        refine pure_ (i := 16) (N := some 30) (v := ?_) (a' := ?_) #[true, true, true, true, true, true, true, true, true, true, true, true, true, true, true, true, true, false, false, false, false, false, false] rfl rfl (by kernel_rfl) (fun _ _ _ h => h) (Or.inl ⟨by rfl, ?_⟩) ?_ ?_
        rotate_left
        · intro w'
          go_simp
          with_reducible rfl
        rotate_left
        · simp only [Act.put, List.setIfInBounds_toArray, List.set_cons_zero, List.set_cons_succ, i64_w, i32_w]
          rfl
        refine take_ (i := 17) (N := some 31) (v := ?_) (a' := ?_) #[true, true, true, true, true, true, true, true, true, true, true, true, true, true, true, true, true, true, false, false, false, false, false] rfl rfl (by kernel_rfl) (fun _ _ _ h => h) (Or.inl ⟨by rfl, ?_⟩) hHeld ?_ ?_
        rotate_left
        · intro w' hs_
          obtain ⟨hs0, hs1, hs2, hs3⟩ := hs_
          go_simp
          with_reducible rfl
        rotate_left
        · simp only [Act.put, List.setIfInBounds_toArray, List.set_cons_zero, List.set_cons_succ, i64_w, i32_w]
          rfl
        refine pure_ (i := 18) (N := some 32) (v := ?_) (a' := ?_) #[true, true, true, true, true, true, true, true, true, true, true, true, true, true, true, true, true, true, true, false, false, false, false] rfl rfl (by kernel_rfl) (fun _ _ _ h => h) (Or.inl ⟨by rfl, ?_⟩) ?_ ?_
        rotate_left
        · intro w'
          go_simp
          with_reducible rfl
        rotate_left
        · simp only [Act.put, List.setIfInBounds_toArray, List.set_cons_zero, List.set_cons_succ, i64_w, i32_w]
          rfl
        refine pure_ (i := 19) (N := some 33) (v := ?_) (a' := ?_) #[true, true, true, true, true, true, true, true, true, true, true, true, true, true, true, true, true, true, true, true, false, false, false] rfl rfl (by kernel_rfl) (fun _ _ _ h => h) (Or.inl ⟨by rfl, ?_⟩) ?_ ?_
        rotate_left
        · intro w'
          go_simp
          with_reducible rfl
        rotate_left
        · simp only [Act.put, List.setIfInBounds_toArray, List.set_cons_zero, List.set_cons_succ, i64_w, i32_w]
          rfl
        refine pure_ (i := 20) (N := some 34) (v := ?_) (a' := ?_) #[true, true, true, true, true, true, true, true, true, true, true, true, true, true, true, true, true, true, true, true, true, false, false] rfl rfl (by kernel_rfl) (fun _ _ _ h => h) (Or.inl ⟨by rfl, ?_⟩) ?_ ?_
        rotate_left
        · intro w'
          go_simp
          with_reducible rfl
        rotate_left
        · simp only [Act.put, List.setIfInBounds_toArray, List.set_cons_zero, List.set_cons_succ, i64_w, i32_w]
          rfl
        refine take_ (i := 21) (N := some 35) (v := .slice (some ⟨g4, o4, none⟩) 256 c4) (a' := ?_) #[true, true, true, true, true, true, true, true, true, true, true, true, true, true, true, true, true, true, true, true, true, true, false] rfl rfl (by kernel_rfl) (fun _ _ _ h => h) (Or.inl ⟨by rfl, ?_⟩) hHeld ?_ ?_
        · intro w' hs_
          obtain ⟨hs0, hs1, hs2, hs3⟩ := hs_
          exact (by go_simp; done)
        rotate_left
        · simp only [Act.put, List.setIfInBounds_toArray, List.set_cons_zero, List.set_cons_succ, i64_w, i32_w]
          rfl
        refine last_ (i := 22) (N := some 36) #[true, true, true, true, true, true, true, true, true, true, true, true, true, true, true, true, true, true, true, true, true, true, true] rfl rfl (by kernel_rfl) (by decide) (fun K hK => ?_)
        obtain ⟨ok, hR, hfr, hadd⟩ := (HSa.out.perm [1, 0, 2, 3] 4 (by decide) (by decide)).grown1
        refine X.copy_step (P := Try.prog) (w0 := wa) .u8 0 (by rfl) rfl (.tmp 27) (.tmp 35) 22 22 5 rfl Try.underlying22 (by obtain ⟨i, hi, _, hs, _⟩ := info_parts info5; rw [hi]; exact congrArg some hs) g0 (256 * n) c0 (x.1 * 256) _ _ (some ⟨g4, o4, none⟩) 256 _ B x.2 ok (by rfl) (by rfl) hR HCa.out (by omega) (by omega) (Below.refl 0 wa) (Nat.zero_le _) ?_
        intro w6 hr6 hb6 hg6
        have HS6 := Aside0.mk ((hadd hr6 hg6).perm [1, 0, 2, 3] 4 (by decide) (by decide))
        clear hr6 hb6 hg6 hadd hR hfr HSa HCa hHeld
        refine hK.out _ _ ?_
        clear hK K
        refine done_ (by kernel_rfl) ?_
        go_wp2_with fail
        cases gk with
        | zero => exact absurd HK.out (by omega)
        | succ k1 =>
          go_roundg k1
          case measure => omega
          case rel => exact ⟨k + 1, by go_num, ⟨by have := HK.out; omega⟩, ⟨by rw [HLT.out]; exact HS6.out⟩⟩
      · have q3 : decide ((k : Int) < (s.pend.length : Int)) = false := decide_eq_false (by omega)
        have q33 : decide (k < s.pend.length) = false := decide_eq_false hlt
        obtain rfl : k = s.pend.length := by have := HK.out; omega
        have hs5 := HS5.out
        rw [List.take_length] at hs5
        have HS7 := Aside0.mk hs5
        have g1_ := (HS5.out.boxed 0 rfl).free 1
        clear hs5 HS5 HK hlt
        go_wp2
        go_end0
        refine ⟨rfl, ?_⟩
        have hs8 := ((HS7.out.set 1 (.slice none 0 0)).wnil).perm [1, 2, 0, 4] 5 (by decide) (by decide)
        have e : s.flush = ⟨X.laysTo s.bytes s.pend, [], s.ghosts, s.set, sl⟩ := by
          unfold X.DS.flush
          rw [if_neg (fun h => by have hb2 : s.blown = true := h; rw [hbl] at hb2; cases hb2), HE.out]
        rw [e]
        have hl := X.laysTo_ok s.pend s.bytes HOK.out.len HOK.out.u8 HOK.out.pend
        exact X.Lies.mkRdisk ⟨hl.1, HOK.out.n1, HOK.out.n2, hl.2, fun _ h => (nomatch h), HOK.out.ghosts, HOK.out.left⟩ hs8
  · rw [spend_eq _ hbl] at hs
    have e : s.flush = s := by
      unfold X.DS.flush
      rw [if_pos (show (s.set && decide (s.left = 0)) = true from hbl)]
    have HE := Aside0.mk e
    have HS := Aside0.mk hs
    clear hs e
    go_wp2
    refine bodyPost_ret (results_none rfl _ _ _) rfl ?_
    rw [HE.out]
    exact ⟨rfl, HS.out⟩
end Go.Proofs.Ytlbfpjhnpnbikaa.U
