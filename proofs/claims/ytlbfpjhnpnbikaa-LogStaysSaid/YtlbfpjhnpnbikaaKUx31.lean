/- Ux31: what this claim uses. Laid by slim.py (ours). -/
import Derived.Test.YtlbfpjhnpnbikaaKPLog
import Derived.Test.YtlbfpjhnpnbikaaKUx0
import Derived.Test.YtlbfpjhnpnbikaaKUx10
import Derived.Test.YtlbfpjhnpnbikaaKUx8
import Derived.Test.YtlbfpjhnpnbikaaKUx29
import Derived.Test.YtlbfpjhnpnbikaaKUx30
namespace Go.Proofs.Ytlbfpjhnpnbikaa.U
open Go.RowKit Go.Proofs.YtlbfpjhnpnbikaaW.PrintWords Go.Proofs.YtlbfpjhnpnbikaaW.PrintLast Go.Proofs.YtlbfpjhnpnbikaaW.PrintMore
attribute [local go_sem] max2_int min2_int max_two min_two max_three min_three max_four min_four
set_option linter.unusedVariables false
set_option linter.unusedSimpArgs false
theorem conv_exec4 {P : Program} {w : World} {oi : Oper} {ρ : Operand → Value} {s t : TypeId} (x : Operand) (ho : oi.op = .convert s t x) (v u : Value) (hx : ρ x = v) (hb : (convert s t v).run P w = .ok u w) : (execOp ρ oi).run P w = .ok (.value u) w := by
  unfold execOp
  simp only [ho, hx, Sem.run_bind, Sem.run_pure, Result.andThen_ok, hb]
theorem refAt4 (b : List Int) (hu : X.u8all b = true) (hl : b.length = 256) : undercroftref01_At.f 9 b 16 4 = some (Pure.hdPl b : Int) := by
  have h4 : ((b.take 20).drop 16).length = 4 := by rw [List.length_drop, List.length_take]; omega
  have hp := Pure.hdPl_lt hu hl
  unfold undercroftref01_At.f
  rw [show wrap64 (16 + 4) = 20 from by unfold wrap64; decide, if_pos (by decide), if_pos (by decide), if_pos (by omega), show ((20 : Int).toNat) = 20 from rfl, show ((16 : Int).toNat) = 16 from rfl, Pure.refNumber_f _ (X.u8all_drop (X.u8all_take hu 20) 16) 9 (by decide), if_pos (by rw [h4]; decide), Option.bind_some]
  congr 1
  show wrap64 (Pure.hdPl b : Int) = (Pure.hdPl b : Int)
  exact Pure.wrap64_id (by omega) (by omega)
set_option maxHeartbeats 8000000 in
set_option maxRecDepth 100000 in
theorem undercroftref04_Read.part (w0 w : World) (L : List X.Res) (g c : Nat) (b : List Int) (ln : Nat) (h : X.Lies w0 w L) (hr : X.Rd w0 L fun w' => (Kd.int .u8).C w' (some ⟨g, 0, none⟩) 256 b) (hc : 256 ≤ c) (hu : X.u8all b = true) (hl : b.length = 256) (hln : 8 ≤ ln ∧ ln ≤ 1024) :
    Calls Try.prog 46 #[.slice (some ⟨g, 0, none⟩) 256 c, .int .i64 (ln : Int)] w fun e w' => e = .returned (.tuple #[.int .u64 (Pure.hdSeq b), .int .i64 (Pure.hdPl b : Int), .bool (Pure.hdOk b (ln : Int))]) ∧ X.Lies w0 w' L := by
  have HBU := Aside0.mk hu
  have HBL := Aside0.mk hl
  have HLN := Aside0.mk hln
  have HRD := Aside0.mk hr
  have HC := Aside0.mk (hr w h)
  have HDC := Aside0.mk hc
  have hl1 : ((b.take 16).drop 8).length = 8 := by rw [List.length_drop, List.length_take]; omega
  have hn1 := undercroftref01_Number.calls 9 (some ⟨g, 8, none⟩) (c - 8) ((b.take 16).drop 8) (Pure.num ((b.take 16).drop 8) : Int) true w (by
    have := Pure.sub_C (a := 8) (m := 8) HC.out HDC.out (by decide) (by decide)
    rw [hl1]
    exact this) (by rw [hl1]; omega) (by rw [Pure.refNumber_f _ (X.u8all_drop (X.u8all_take HBU.out 16) 8) 9 (by decide), if_pos (by rw [hl1]; decide)])
  have hn2 := fun w3 (hC : (Kd.int .u8).C w3 (some ⟨g, 0, none⟩) 256 b) => undercroftref01_At.calls 9 (some ⟨g, 0, none⟩) c b 16 4 (Pure.hdPl b : Int) w3 (by rw [HBL.out]; exact hC) (by rw [HBL.out]; exact HDC.out) (refAt4 b HBU.out HBL.out)
  rw [hl1] at hn1
  simp only [hl] at hn2
  have hsr := Pure.hdSeq_lt hu hl
  have hpr := Pure.hdPl_lt hu hl
  have HOK : Aside0 (Pure.hdOk b (ln : Int) = (decide ((Pure.hdPl b : Int) < (ln : Int) - 1) && decide (hdB (Pure.hdSeq b) (Pure.hdPl b) = b))) := ⟨rfl⟩
  have HSE : Aside0 (((strOfNums (hdB (Pure.hdSeq b) (Pure.hdPl b))).toList == (strOfNums b).toList) = decide (hdB (Pure.hdSeq b) (Pure.hdPl b) = b)) := ⟨by rw [Bool.eq_iff_iff, beq_iff_eq, decide_eq_true_eq]; exact Pure.str_inj (hdB_u8 _ _) hu⟩
  obtain ⟨sq, hsq⟩ : ∃ sq : Int, sq = Pure.hdSeq b := ⟨_, rfl⟩
  obtain ⟨pl, hpl⟩ : ∃ pl : Nat, pl = Pure.hdPl b := ⟨_, rfl⟩
  rw [show (Pure.num ((b.take 16).drop 8) : Int) = sq from hsq.symm] at hn1
  rw [← hsq] at hsr HOK HSE ⊢
  rw [← hpl] at hpr HOK HSE hn2 ⊢
  have HN1 := Aside0.mk hn1
  have HN2 := Aside0.mk hn2
  have HSR := Aside0.mk hsr
  have HPR := Aside0.mk hpr
  have HS := Aside0.mk h
  have hd20 : (20 : Int) ≤ (c : Int) := by omega
  have hd16 : (16 : Int) ≤ (c : Int) := by omega
  clear hn1 hn2 hsr hpr hsq hpl hl1 h hr hu hl hln
  go_enter Try.func46, Try.ntmps46
  go_wp2_with fail
  refine HN1.out.mono ?_
  rintro e w3 ⟨rfl, hdr⟩
  have HS3 := Aside0.mk (drawn_grow HS.out hdr)
  have HC3 := Aside0.mk (HRD.out _ HS3.out)
  clear hdr HN1 HS HC
  go_wp2_with fail
  refine (HN2.out w3 HC3.out).mono ?_
  rintro e w4 ⟨rfl, hdr⟩
  have HS4 := Aside0.mk (drawn_grow HS3.out hdr)
  clear hdr HN2 HS3 HC3
  have hw2 : wrap64 ((ln : Int) - 1) = (ln : Int) - 1 := by have := HLN.out; unfold wrap64; omega
  go_wp2_with fail
  by_cases hlt : (pl : Int) < (ln : Int) - 1
  · have q1 : decide ((pl : Int) < (ln : Int) - 1) = true := decide_eq_true hlt
    have HHD := Aside0.mk (fun w' (h : X.Lies w0 w' L) => Pure.refHead_part w0 w' L sq pl h (by have := HLN.out; omega))
    have HOK2 : Aside0 (Pure.hdOk b (ln : Int) = decide (hdB sq pl = b)) := ⟨by rw [HOK.out, q1, Bool.true_and]⟩
    have hse := HSE.out
    clear hlt hd20 hd16
    refine start_ (n := 18) (S := (fun w' => (Kd.int .u8).C w' (some ⟨g, 0, none⟩) 256 b)) (ds := []) #[false, false, false, false, false, false, false, false, false, false, false, false, false, false, false, false, false, false] (by kernel_rfl) rfl rfl (HRD.out _ (HS4.out.drew)) (fun hHeld => ?_)
    have HSa := Aside0.mk (HS4.out.drew)
    generalize World.drew _ = wa at *
    clear HS4
    refine pure_ (i := 0) (N := some 18) (v := ?_) (a' := ?_) #[true, false, false, false, false, false, false, false, false, false, false, false, false, false, false, false, false, false] rfl rfl (by kernel_rfl) (fun _ _ _ h => h) (Or.inl ⟨by rfl, ?_⟩) ?_ ?_
    rotate_left
    · intro w'
      go_simp
      with_reducible rfl
    rotate_left
    · simp only [Act.put, List.setIfInBounds_toArray, List.set_cons_zero, List.set_cons_succ, i64_w, i32_w]
      rfl
    refine pure_ (i := 1) (N := some 19) (v := ?_) (a' := ?_) #[true, true, false, false, false, false, false, false, false, false, false, false, false, false, false, false, false, false] rfl rfl (by kernel_rfl) (fun _ _ _ h => h) (Or.inl ⟨by rfl, ?_⟩) ?_ ?_
    rotate_left
    · intro w'
      go_simp
      with_reducible rfl
    rotate_left
    · simp only [Act.put, List.setIfInBounds_toArray, List.set_cons_zero, List.set_cons_succ, i64_w, i32_w]
      rfl
    refine pure_ (i := 2) (N := some 20) (v := ?_) (a' := ?_) #[true, true, true, false, false, false, false, false, false, false, false, false, false, false, false, false, false, false] rfl rfl (by kernel_rfl) (fun _ _ _ h => h) (Or.inl ⟨by rfl, ?_⟩) ?_ ?_
    rotate_left
    · intro w'
      go_simp
      with_reducible rfl
    rotate_left
    · simp only [Act.put, List.setIfInBounds_toArray, List.set_cons_zero, List.set_cons_succ, i64_w, i32_w]
      rfl
    refine pure_ (i := 3) (N := some 21) (v := ?_) (a' := ?_) #[true, true, true, true, false, false, false, false, false, false, false, false, false, false, false, false, false, false] rfl rfl (by kernel_rfl) (fun _ _ _ h => h) (Or.inl ⟨by rfl, ?_⟩) ?_ ?_
    rotate_left
    · intro w'
      go_simp
      with_reducible rfl
    rotate_left
    · simp only [Act.put, List.setIfInBounds_toArray, List.set_cons_zero, List.set_cons_succ, i64_w, i32_w]
      rfl
    refine pure_ (i := 4) (N := some 22) (v := ?_) (a' := ?_) #[true, true, true, true, true, false, false, false, false, false, false, false, false, false, false, false, false, false] rfl rfl (by kernel_rfl) (fun _ _ _ h => h) (Or.inl ⟨by rfl, ?_⟩) ?_ ?_
    rotate_left
    · intro w'
      go_simp
      with_reducible rfl
    rotate_left
    · simp only [Act.put, List.setIfInBounds_toArray, List.set_cons_zero, List.set_cons_succ, i64_w, i32_w]
      rfl
    refine pure_ (i := 5) (N := some 23) (v := .bool true) (a' := ?_) #[true, true, true, true, true, true, false, false, false, false, false, false, false, false, false, false, false, false] rfl rfl (by kernel_rfl) (fun _ _ _ h => h) (Or.inl ⟨by rfl, ?_⟩) ?_ ?_
    · intro w'
      exact (by go_simp; first | done | (rw [i64_w]; assumption))
    rotate_left
    · simp only [Act.put, List.setIfInBounds_toArray, List.set_cons_zero, List.set_cons_succ, i64_w, i32_w]
      rfl
    refine pure_ (i := 6) (N := some 24) (v := .bool true) (a' := ?_) #[true, true, true, true, true, true, true, false, false, false, false, false, false, false, false, false, false, false] rfl rfl (by kernel_rfl) (fun _ _ _ h => h) (Or.inl ⟨by rfl, ?_⟩) ?_ ?_
    · intro w'
      exact (by go_simp; first | done | (rw [i64_w]; assumption))
    rotate_left
    · simp only [Act.put, List.setIfInBounds_toArray, List.set_cons_zero, List.set_cons_succ, i64_w, i32_w]
      rfl
    refine pure_ (i := 7) (N := some 25) (v := ?_) (a' := ?_) #[true, true, true, true, true, true, true, true, false, false, false, false, false, false, false, false, false, false] rfl rfl (by kernel_rfl) (fun _ _ _ h => h) (Or.inl ⟨by rfl, ?_⟩) ?_ ?_
    rotate_left
    · intro w'
      go_simp
      with_reducible rfl
    rotate_left
    · simp only [Act.put, List.setIfInBounds_toArray, List.set_cons_zero, List.set_cons_succ, i64_w, i32_w]
      rfl
    refine pure_ (i := 8) (N := some 26) (v := ?_) (a' := ?_) #[true, true, true, true, true, true, true, true, true, false, false, false, false, false, false, false, false, false] rfl rfl (by kernel_rfl) (fun _ _ _ h => h) (Or.inl ⟨by rfl, ?_⟩) ?_ ?_
    rotate_left
    · intro w'
      go_simp
      with_reducible rfl
    rotate_left
    · simp only [Act.put, List.setIfInBounds_toArray, List.set_cons_zero, List.set_cons_succ, i64_w, i32_w]
      rfl
    refine pure_ (i := 11) (N := some 29) (v := ?_) (a' := ?_) #[true, true, true, true, true, true, true, true, true, false, false, true, false, false, false, false, false, false] rfl rfl (by kernel_rfl) (fun _ _ _ h => h) (Or.inl ⟨by rfl, ?_⟩) ?_ ?_
    rotate_left
    · intro w'
      go_simp
      with_reducible rfl
    rotate_left
    · simp only [Act.put, List.setIfInBounds_toArray, List.set_cons_zero, List.set_cons_succ, i64_w, i32_w]
      rfl
    refine take_ (i := 12) (N := some 30) (v := .string (strOfNums b)) (a' := ?_) #[true, true, true, true, true, true, true, true, true, false, false, true, true, false, false, false, false, false] rfl rfl (by kernel_rfl) (fun _ _ _ h => h) (Or.inl ⟨by rfl, ?_⟩) hHeld ?_ ?_
    · intro w' hs_
      exact conv_exec4 (.tmp 29) (by rfl) _ _ (by rfl) (Pure.str_C' hs_)
    rotate_left
    · simp only [Act.put, List.setIfInBounds_toArray, List.set_cons_zero, List.set_cons_succ, i64_w, i32_w]
      rfl
    refine one_ (i := 9) (N := some 27) #[true, true, true, true, true, true, true, true, true, true, false, true, true, false, false, false, false, false] rfl rfl (by kernel_rfl) (by decide) (fun K hK => ?_)
    refine goes_ Try.func53 (by kernel_rfl) rfl #[.int .u64 sq, .int .i64 (pl : Int)] (by rfl) rfl rfl (by (try simp only [List.map_toArray, List.map_cons, List.map_nil]); first | done | rfl) ?_
    refine (HHD.out wa HSa.out).mono ?_
    rintro e w5 ⟨Bh, dh, rfl, hs⟩
    have HS5 := Aside0.mk hs
    have HRD := Aside0.mk (X.Rd.tail (R := .row (Kd.int .u8) 5 (.slice Bh 256 dh) (hdB sq pl)) HRD.out)
    refine ⟨_, rfl, ?_⟩
    clear hs HSa hHeld
    refine hK.out _ _ (HRD.out _ (HS5.out)) (fun hHeld => ?_)
    clear hK K
    refine norm_ (a' := ?_) ?_ ?_
    rotate_left
    · show Act.put _ (some 27) _ = _
      simp only [Act.put, List.setIfInBounds_toArray, List.set_cons_zero, List.set_cons_succ, i64_w, i32_w]
      rfl
    refine X.more_ (fun w' => (Kd.int .u8).C w' (some ⟨g, 0, none⟩) 256 b ∧ (Kd.int .u8).C w' Bh 256 (hdB sq pl)) ⟨HRD.out _ (HS5.out), (X.Lies.rowC HS5.out 0 rfl).1⟩ (fun _ h_ => h_.1) (fun hHeld => ?_)
    refine take_ (i := 10) (N := some 28) (v := .string (strOfNums (hdB sq pl))) (a' := ?_) #[true, true, true, true, true, true, true, true, true, true, true, true, true, false, false, false, false, false] rfl rfl (by kernel_rfl) (fun _ _ _ h => h) (Or.inl ⟨by rfl, ?_⟩) hHeld ?_ ?_
    · intro w' hs_
      obtain ⟨hs0, hs1⟩ := hs_
      exact conv_exec4 (.tmp 27) (by rfl) _ _ (by rfl) (Pure.str_C' hs1)
    rotate_left
    · simp only [Act.put, List.setIfInBounds_toArray, List.set_cons_zero, List.set_cons_succ, i64_w, i32_w]
      rfl
    refine pure_ (i := 13) (N := some 31) (v := .bool (decide (hdB sq pl = b))) (a' := ?_) #[true, true, true, true, true, true, true, true, true, true, true, true, true, true, false, false, false, false] rfl rfl (by kernel_rfl) (fun _ _ _ h => h) (Or.inl ⟨by rfl, ?_⟩) ?_ ?_
    · intro w'
      exact (by go_simp; first | done | (rw [i64_w]; assumption))
    rotate_left
    · simp only [Act.put, List.setIfInBounds_toArray, List.set_cons_zero, List.set_cons_succ, i64_w, i32_w]
      rfl
    refine pure_ (i := 14) (N := some 32) (v := .bool (decide (hdB sq pl = b))) (a' := ?_) #[true, true, true, true, true, true, true, true, true, true, true, true, true, true, true, false, false, false] rfl rfl (by kernel_rfl) (fun _ _ _ h => h) (Or.inl ⟨by rfl, ?_⟩) ?_ ?_
    · intro w'
      exact (by go_simp; first | done | (rw [i64_w]; assumption))
    rotate_left
    · simp only [Act.put, List.setIfInBounds_toArray, List.set_cons_zero, List.set_cons_succ, i64_w, i32_w]
      rfl
    refine pure_ (i := 15) (N := some 4) (v := ?_) (a' := ?_) #[true, true, true, true, true, true, true, true, true, true, true, true, true, true, true, true, false, false] rfl rfl (by kernel_rfl) (fun _ _ _ h => h) (Or.inl ⟨by rfl, ?_⟩) ?_ ?_
    rotate_left
    · intro w'
      go_simp
      with_reducible rfl
    rotate_left
    · simp only [Act.put, List.setIfInBounds_toArray, List.set_cons_zero, List.set_cons_succ, i64_w, i32_w]
      rfl
    refine pure_ (i := 16) (N := some 5) (v := ?_) (a' := ?_) #[true, true, true, true, true, true, true, true, true, true, true, true, true, true, true, true, true, false] rfl rfl (by kernel_rfl) (fun _ _ _ h => h) (Or.inl ⟨by rfl, ?_⟩) ?_ ?_
    rotate_left
    · intro w'
      go_simp
      with_reducible rfl
    rotate_left
    · simp only [Act.put, List.setIfInBounds_toArray, List.set_cons_zero, List.set_cons_succ, i64_w, i32_w]
      rfl
    refine pure_ (i := 17) (N := some 6) (v := ?_) (a' := ?_) #[true, true, true, true, true, true, true, true, true, true, true, true, true, true, true, true, true, true] rfl rfl (by kernel_rfl) (fun _ _ _ h => h) (Or.inl ⟨by rfl, ?_⟩) ?_ ?_
    rotate_left
    · intro w'
      go_simp
      with_reducible rfl
    rotate_left
    · simp only [Act.put, List.setIfInBounds_toArray, List.set_cons_zero, List.set_cons_succ, i64_w, i32_w]
      rfl
    clear hHeld
    refine done_ (by kernel_rfl) ?_
    go_wp2
    go_ret3
    rw [HOK2.out]
    exact ⟨rfl, HS5.out.tail⟩
  · have q1 : decide ((pl : Int) < (ln : Int) - 1) = false := decide_eq_false hlt
    have HOK2 : Aside0 (Pure.hdOk b (ln : Int) = false) := ⟨by rw [HOK.out, q1, Bool.false_and]⟩
    clear hlt hd20 hd16
    refine start_ (n := 18) (S := (fun w' => (Kd.int .u8).C w' (some ⟨g, 0, none⟩) 256 b)) (ds := []) #[false, false, false, false, false, false, false, false, false, false, false, false, false, false, false, false, false, false] (by kernel_rfl) rfl rfl (HRD.out _ (HS4.out.drew)) (fun hHeld => ?_)
    have HSa := Aside0.mk (HS4.out.drew)
    generalize World.drew _ = wa at *
    clear HS4
    refine pure_ (i := 0) (N := some 18) (v := ?_) (a' := ?_) #[true, false, false, false, false, false, false, false, false, false, false, false, false, false, false, false, false, false] rfl rfl (by kernel_rfl) (fun _ _ _ h => h) (Or.inl ⟨by rfl, ?_⟩) ?_ ?_
    rotate_left
    · intro w'
      go_simp
      with_reducible rfl
    rotate_left
    · simp only [Act.put, List.setIfInBounds_toArray, List.set_cons_zero, List.set_cons_succ, i64_w, i32_w]
      rfl
    refine pure_ (i := 1) (N := some 19) (v := ?_) (a' := ?_) #[true, true, false, false, false, false, false, false, false, false, false, false, false, false, false, false, false, false] rfl rfl (by kernel_rfl) (fun _ _ _ h => h) (Or.inl ⟨by rfl, ?_⟩) ?_ ?_
    rotate_left
    · intro w'
      go_simp
      with_reducible rfl
    rotate_left
    · simp only [Act.put, List.setIfInBounds_toArray, List.set_cons_zero, List.set_cons_succ, i64_w, i32_w]
      rfl
    refine pure_ (i := 2) (N := some 20) (v := ?_) (a' := ?_) #[true, true, true, false, false, false, false, false, false, false, false, false, false, false, false, false, false, false] rfl rfl (by kernel_rfl) (fun _ _ _ h => h) (Or.inl ⟨by rfl, ?_⟩) ?_ ?_
    rotate_left
    · intro w'
      go_simp
      with_reducible rfl
    rotate_left
    · simp only [Act.put, List.setIfInBounds_toArray, List.set_cons_zero, List.set_cons_succ, i64_w, i32_w]
      rfl
    refine pure_ (i := 3) (N := some 21) (v := ?_) (a' := ?_) #[true, true, true, true, false, false, false, false, false, false, false, false, false, false, false, false, false, false] rfl rfl (by kernel_rfl) (fun _ _ _ h => h) (Or.inl ⟨by rfl, ?_⟩) ?_ ?_
    rotate_left
    · intro w'
      go_simp
      with_reducible rfl
    rotate_left
    · simp only [Act.put, List.setIfInBounds_toArray, List.set_cons_zero, List.set_cons_succ, i64_w, i32_w]
      rfl
    refine pure_ (i := 4) (N := some 22) (v := ?_) (a' := ?_) #[true, true, true, true, true, false, false, false, false, false, false, false, false, false, false, false, false, false] rfl rfl (by kernel_rfl) (fun _ _ _ h => h) (Or.inl ⟨by rfl, ?_⟩) ?_ ?_
    rotate_left
    · intro w'
      go_simp
      with_reducible rfl
    rotate_left
    · simp only [Act.put, List.setIfInBounds_toArray, List.set_cons_zero, List.set_cons_succ, i64_w, i32_w]
      rfl
    refine pure_ (i := 5) (N := some 23) (v := .bool false) (a' := ?_) #[true, true, true, true, true, true, false, false, false, false, false, false, false, false, false, false, false, false] rfl rfl (by kernel_rfl) (fun _ _ _ h => h) (Or.inl ⟨by rfl, ?_⟩) ?_ ?_
    · intro w'
      exact (by go_simp; first | done | (rw [i64_w]; assumption))
    rotate_left
    · simp only [Act.put, List.setIfInBounds_toArray, List.set_cons_zero, List.set_cons_succ, i64_w, i32_w]
      rfl
    refine pure_ (i := 6) (N := some 24) (v := .bool false) (a' := ?_) #[true, true, true, true, true, true, true, false, false, false, false, false, false, false, false, false, false, false] rfl rfl (by kernel_rfl) (fun _ _ _ h => h) (Or.inl ⟨by rfl, ?_⟩) ?_ ?_
    · intro w'
      exact (by go_simp; first | done | (rw [i64_w]; assumption))
    rotate_left
    · simp only [Act.put, List.setIfInBounds_toArray, List.set_cons_zero, List.set_cons_succ, i64_w, i32_w]
      rfl
    refine pure_ (i := 7) (N := some 25) (v := undef) (a' := ?_) #[true, true, true, true, true, true, true, true, false, false, false, false, false, false, false, false, false, false] rfl rfl (by kernel_rfl) (fun _ _ _ h => h) (Or.inr ⟨by rfl, rfl⟩) ?_ ?_
    rotate_left
    · simp only [Act.put, List.setIfInBounds_toArray, List.set_cons_zero, List.set_cons_succ, i64_w, i32_w]
      rfl
    refine pure_ (i := 8) (N := some 26) (v := undef) (a' := ?_) #[true, true, true, true, true, true, true, true, true, false, false, false, false, false, false, false, false, false] rfl rfl (by kernel_rfl) (fun _ _ _ h => h) (Or.inr ⟨by rfl, rfl⟩) ?_ ?_
    rotate_left
    · simp only [Act.put, List.setIfInBounds_toArray, List.set_cons_zero, List.set_cons_succ, i64_w, i32_w]
      rfl
    refine pure_ (i := 9) (N := some 27) (v := undef) (a' := ?_) #[true, true, true, true, true, true, true, true, true, true, false, false, false, false, false, false, false, false] rfl rfl (by kernel_rfl) (fun _ _ _ h => h) (Or.inr ⟨by rfl, rfl⟩) ?_ ?_
    rotate_left
    · simp only [Act.put, List.setIfInBounds_toArray, List.set_cons_zero, List.set_cons_succ, i64_w, i32_w]
      rfl
    refine pure_ (i := 10) (N := some 28) (v := undef) (a' := ?_) #[true, true, true, true, true, true, true, true, true, true, true, false, false, false, false, false, false, false] rfl rfl (by kernel_rfl) (fun _ _ _ h => h) (Or.inr ⟨by rfl, rfl⟩) ?_ ?_
    rotate_left
    · simp only [Act.put, List.setIfInBounds_toArray, List.set_cons_zero, List.set_cons_succ, i64_w, i32_w]
      rfl
    refine pure_ (i := 11) (N := some 29) (v := undef) (a' := ?_) #[true, true, true, true, true, true, true, true, true, true, true, true, false, false, false, false, false, false] rfl rfl (by kernel_rfl) (fun _ _ _ h => h) (Or.inr ⟨by rfl, rfl⟩) ?_ ?_
    rotate_left
    · simp only [Act.put, List.setIfInBounds_toArray, List.set_cons_zero, List.set_cons_succ, i64_w, i32_w]
      rfl
    refine pure_ (i := 12) (N := some 30) (v := undef) (a' := ?_) #[true, true, true, true, true, true, true, true, true, true, true, true, true, false, false, false, false, false] rfl rfl (by kernel_rfl) (fun _ _ _ h => h) (Or.inr ⟨by rfl, rfl⟩) ?_ ?_
    rotate_left
    · simp only [Act.put, List.setIfInBounds_toArray, List.set_cons_zero, List.set_cons_succ, i64_w, i32_w]
      rfl
    refine pure_ (i := 13) (N := some 31) (v := undef) (a' := ?_) #[true, true, true, true, true, true, true, true, true, true, true, true, true, true, false, false, false, false] rfl rfl (by kernel_rfl) (fun _ _ _ h => h) (Or.inr ⟨by rfl, rfl⟩) ?_ ?_
    rotate_left
    · simp only [Act.put, List.setIfInBounds_toArray, List.set_cons_zero, List.set_cons_succ, i64_w, i32_w]
      rfl
    refine pure_ (i := 14) (N := some 32) (v := .bool false) (a' := ?_) #[true, true, true, true, true, true, true, true, true, true, true, true, true, true, true, false, false, false] rfl rfl (by kernel_rfl) (fun _ _ _ h => h) (Or.inl ⟨by rfl, ?_⟩) ?_ ?_
    · intro w'
      exact (by go_simp; first | done | (rw [i64_w]; assumption))
    rotate_left
    · simp only [Act.put, List.setIfInBounds_toArray, List.set_cons_zero, List.set_cons_succ, i64_w, i32_w]
      rfl
    refine pure_ (i := 15) (N := some 4) (v := ?_) (a' := ?_) #[true, true, true, true, true, true, true, true, true, true, true, true, true, true, true, true, false, false] rfl rfl (by kernel_rfl) (fun _ _ _ h => h) (Or.inl ⟨by rfl, ?_⟩) ?_ ?_
    rotate_left
    · intro w'
      go_simp
      with_reducible rfl
    rotate_left
    · simp only [Act.put, List.setIfInBounds_toArray, List.set_cons_zero, List.set_cons_succ, i64_w, i32_w]
      rfl
    refine pure_ (i := 16) (N := some 5) (v := ?_) (a' := ?_) #[true, true, true, true, true, true, true, true, true, true, true, true, true, true, true, true, true, false] rfl rfl (by kernel_rfl) (fun _ _ _ h => h) (Or.inl ⟨by rfl, ?_⟩) ?_ ?_
    rotate_left
    · intro w'
      go_simp
      with_reducible rfl
    rotate_left
    · simp only [Act.put, List.setIfInBounds_toArray, List.set_cons_zero, List.set_cons_succ, i64_w, i32_w]
      rfl
    refine pure_ (i := 17) (N := some 6) (v := ?_) (a' := ?_) #[true, true, true, true, true, true, true, true, true, true, true, true, true, true, true, true, true, true] rfl rfl (by kernel_rfl) (fun _ _ _ h => h) (Or.inl ⟨by rfl, ?_⟩) ?_ ?_
    rotate_left
    · intro w'
      go_simp
      with_reducible rfl
    rotate_left
    · simp only [Act.put, List.setIfInBounds_toArray, List.set_cons_zero, List.set_cons_succ, i64_w, i32_w]
      rfl
    clear hHeld
    refine done_ (by kernel_rfl) ?_
    go_wp2
    go_ret3
    rw [HOK2.out]
    exact ⟨rfl, HSa.out⟩
end Go.Proofs.Ytlbfpjhnpnbikaa.U
