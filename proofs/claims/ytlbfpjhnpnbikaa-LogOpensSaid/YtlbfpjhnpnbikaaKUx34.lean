/- Ux34: what this claim uses. Laid by slim.py (ours). -/
import Derived.Test.YtlbfpjhnpnbikaaKUx3
import Derived.Test.YtlbfpjhnpnbikaaKUx0
import Derived.Test.YtlbfpjhnpnbikaaKUx1
import Derived.Test.YtlbfpjhnpnbikaaKUx9
import Derived.Test.YtlbfpjhnpnbikaaKUx11
import Derived.Test.YtlbfpjhnpnbikaaKUx22
import Derived.Test.YtlbfpjhnpnbikaaKUx25
import Derived.Test.YtlbfpjhnpnbikaaKUx24
import Derived.Test.YtlbfpjhnpnbikaaKUx33
import Derived.Test.YtlbfpjhnpnbikaaKUx53
namespace Go.Proofs.Ytlbfpjhnpnbikaa.U
open Go.RowKit Go.Proofs.YtlbfpjhnpnbikaaW.PrintWords Go.Proofs.YtlbfpjhnpnbikaaW.PrintLast Go.Proofs.YtlbfpjhnpnbikaaW.PrintMore
attribute [local go_sem] max2_int min2_int max_two min_two max_three min_three max_four min_four
set_option linter.unusedVariables false
set_option linter.unusedSimpArgs false
def undercroftlaw04_LogOpens.f (l : List Int) (a b c : Int) : Option Bool := if X.u8all l = true then some true else none
def opensB (l : List Int) : List Int := l.take (min l.length 256) ++ (List.replicate 256 0).drop (min l.length 256)
theorem opensB_ok {l : List Int} (h : X.u8all l = true) : (opensB l).length = 256 ∧ X.u8all (opensB l) = true := by
  unfold opensB
  refine ⟨by rw [List.length_append, List.length_take, List.length_drop, List.length_replicate]; omega, X.u8all_append.2 ⟨X.u8all_take h _, X.u8all_drop (X.u8all_iff.2 (fun c hc => ?_)) _⟩⟩
  obtain ⟨-, rfl⟩ := List.mem_replicate.1 hc
  decide
theorem put_pend (s : X.DS) (n : Nat) (i : Int) (xs : List Int) : (put s n i xs).pend.length ≤ s.pend.length + 1 := by
  unfold put
  split
  · exact X.DS.write_pend s _ _
  · omega
theorem put_ghosts (s : X.DS) (n : Nat) (i : Int) (xs : List Int) : (put s n i xs).ghosts.length ≤ s.ghosts.length + 1 := by
  unfold put
  split
  · exact write_ghosts s _ _
  · omega
set_option maxHeartbeats 16000000 in
set_option maxRecDepth 100000 in
theorem undercroftlaw04_LogOpens.calls (A0 : Option Addr) (c0 : Nat) (l0 : List Int) (a1_0 a1_1 a1_2 : Int) (r : Bool) (w : World) (hr0 : Kd.C (Kd.int .u8) w A0 l0.length l0) (hc0 : l0.length ≤ c0) (h : undercroftlaw04_LogOpens.f l0 a1_0 a1_1 a1_2 = some r) :
    Calls Try.prog 3 #[.slice A0 l0.length c0, .agg #[.int .i64 a1_0, .int .i64 a1_1, .int .i64 a1_2]] w fun e w' => e = .returned (.bool r) ∧ Below w.heap.size w w' := by
  unfold undercroftlaw04_LogOpens.f at h
  by_cases hok : X.u8all l0 = true
  rotate_left
  · rw [if_neg hok] at h
    cases h
  rw [if_pos hok] at h
  obtain rfl := Option.some.inj h
  have HOB := Aside0.mk (opensB_ok hok)
  have HR := Aside0.mk hr0
  have HS0 := Aside0.mk ((X.Lies.start w).alloc #[.int .i64 a1_0, .int .i64 a1_1, .int .i64 a1_2] 24)
  clear h hok hr0
  go_enter Try.func3, Try.ntmps3
  go_wp2_with fail
  refine (undercroftlaw04_alive.yes _).mono ?_
  rintro e w2 ⟨rfl, hb⟩
  have HS2 := Aside0.mk (HS0.out.grow hb)
  clear hb HS0
  obtain ⟨gx, hgx⟩ : ∃ gx, gx = w.heap.size := ⟨_, rfl⟩
  rw [← hgx] at HS2 ⊢
  clear hgx
  have c0_ : w2.cell? ⟨gx, 0, none⟩ = some (.int .i64 a1_0) := (HS2.out.boxed 0 rfl).cell 0 _ rfl
  by_cases hn : a1_0 < 1 ∨ 1024 < a1_0
  · have HB := Aside0.mk HS2.out.below
    clear HS2
    go_wp2_with fail
    refine (disk_New_no.calls a1_0 w2 hn).mono ?_
    rintro e w' ⟨rfl, rfl⟩
    go_wp2_with fail
    refine (undercroftref02_New_no.calls a1_0 w2 hn).mono ?_
    rintro e w' ⟨rfl, rfl⟩
    go_wp2_with fail
    go_ret
    exact ⟨rfl, HB.out⟩
  · obtain ⟨n, rfl⟩ := Int.eq_ofNat_of_zero_le (show 0 ≤ a1_0 by omega)
    have HN : Aside0 (1 ≤ n ∧ n ≤ 1024) := ⟨by omega⟩
    clear hn
    go_wp2_with fail
    refine (disk_New.part w w2 _ n HS2.out HN.out.1 HN.out.2).mono ?_
    rintro e w3 ⟨p, rfl, hs⟩
    have HS3 := Aside0.mk hs
    have c0_ : w3.cell? ⟨gx, 0, none⟩ = some (.int .i64 (n : Int)) := (hs.boxed 1 rfl).cell 0 _ rfl
    clear hs HS2
    go_wp2_with fail
    refine (undercroftref02_New.calls w w3 _ n HS3.out HN.out.1 HN.out.2).mono ?_
    rintro e w4 ⟨q, rfl, hs⟩
    have HS4 : Aside0 (X.Lies w w4 [.rdisk q n (Pure.zerosD n), .disk p n (Pure.zerosD n), .box gx #[.int .i64 (n : Int), .int .i64 a1_1, .int .i64 a1_2] 24]) := ⟨hs⟩
    clear hs HS3
    go_wp2_with (first | (obtain ⟨ok, hR, hfr, hadd⟩ := HS5.out.grown1; refine Kd.R_copy (enc := Value.int .u8) (h1 := fun _ => rfl) (0 : Int) 0 rfl (.tmp 40) (.tmp 41) 22 22 5 rfl Try.underlying22 (by obtain ⟨i, hi, _, hs, _⟩ := info_parts info5; rw [hi]; exact congrArg some hs) _ (List.replicate 256 0) l0 A0 l0.length c0 ok (by rfl) (by rfl) hR (Kd.C_below HR.out HS5.out.below) (Below.refl 0 _) (Nat.zero_le _) ?_; intro w6 hr6 hb6 hg6; have HS6 : Aside0 (X.Lies w w6 [.row (Kd.int .u8) 5 (.slice (some ⟨gb, 0, none⟩) 256 cb) (opensB l0), .rdisk q n (Pure.zerosD n), .disk p n (Pure.zerosD n), .box gx #[.int .i64 (n : Int), .int .i64 a1_1, .int .i64 a1_2] 24]) := ⟨by have h_ := hadd hr6 hg6; rw [show (List.replicate 256 (0 : Int)).length = 256 from List.length_replicate] at h_; exact h_⟩; clear hr6 hb6 hg6 hadd hR hfr HS5; have k1_ : w6.cell? ⟨gx, 1, none⟩ = some (.int .i64 a1_1) := (HS6.out.boxed 3 rfl).cell 1 _ rfl) | ((with_reducible refine gate_ (.makeSlice 22 (.const (.int .i64 256)) (.const (.int .i64 256))) rfl ?_); (refine Kd.R_make (Kd.int .u8) (w0 := w4) w4.heap.size 5 rfl rfl 22 (.const (.int .i64 256)) (.const (.int .i64 256)) rfl 256 rfl rfl Try.underlying22 (.int .u8 0) 1 info5 rfl (by decide) (by omega) 0 (ok := fun _ => True) (okp := fun _ => False) rfl (fun _ h => h.elim) trivial (by decide) (by decide) (Below.refl _ _) (Nat.le_refl _) ?_); intro v2 w5 hr2 hb2 hg2 hv2; obtain ⟨gb, cb, e1, -⟩ := Kd.R_form hr2 (by decide); subst e1; have HS5 := Aside0.mk (HS4.out.newRow hb2 hr2); clear hr2 hb2 hg2 hv2 HS4))
    have hW := disk_Write.part w w6 _ p n (Pure.zerosD n) a1_1 (some ⟨gb, 0, none⟩) cb (opensB l0) (HS6.out.perm [2, 0, 1, 3] 4 (by decide) (by decide)) (by rw [HOB.out.1]; exact X.Rd.row 0 rfl) (by rw [HOB.out.1]; exact (HS6.out.rowC 0 rfl).2.1) HOB.out.2 (fun ad e _ => by cases e; exact ⟨_, _, rfl⟩) (show (0 : Nat) ≤ _ by decide)
    rw [HOB.out.1] at hW
    refine hW.mono ?_
    rintro e w7 ⟨rfl, hs⟩
    have HS7 : Aside0 (X.Lies w w7 [.disk p n (put (Pure.zerosD n) n a1_1 (opensB l0)), .row (Kd.int .u8) 5 (.slice (some ⟨gb, 0, none⟩) 256 cb) (opensB l0), .rdisk q n (Pure.zerosD n), .box gx #[.int .i64 (n : Int), .int .i64 a1_1, .int .i64 a1_2] 24]) := ⟨hs⟩
    have k1_ : w7.cell? ⟨gx, 1, none⟩ = some (.int .i64 a1_1) := (hs.boxed 3 rfl).cell 1 _ rfl
    clear hW hs HS6
    have hV := undercroftref02_Disk_Write.calls w w7 _ q n (Pure.zerosD n) a1_1 (some ⟨gb, 0, none⟩) cb (opensB l0) (HS7.out.perm [2, 0, 1, 3] 4 (by decide) (by decide)) (by rw [HOB.out.1]; exact (HS7.out.rowC 1 rfl).1) (by rw [HOB.out.1]; exact (HS7.out.rowC 1 rfl).2.1) HOB.out.2 (show (0 : Nat) ≤ _ by decide) (show (0 : Nat) ≤ _ by decide)
    rw [HOB.out.1] at hV
    have HV := Aside0.mk hV
    clear hV
    go_wp2_with fail
    refine HV.out.mono ?_
    rintro e w8 ⟨rfl, hs⟩
    have HPP : Aside0 ((put (Pure.zerosD n) n a1_1 (opensB l0)).pend.length ≤ 400000000000 ∧ (put (Pure.zerosD n) n a1_1 (opensB l0)).ghosts.length ≤ 400000000000) := ⟨by
      have h1 := put_pend (Pure.zerosD n) n a1_1 (opensB l0)
      have h2 := put_ghosts (Pure.zerosD n) n a1_1 (opensB l0)
      have h3 : (Pure.zerosD n).pend.length = 0 := rfl
      have h4 : (Pure.zerosD n).ghosts.length = 0 := rfl
      omega⟩
    obtain ⟨D, hD⟩ : ∃ D, D = put (Pure.zerosD n) n a1_1 (opensB l0) := ⟨_, rfl⟩
    rw [← hD] at hs HPP
    have HS8 : Aside0 (X.Lies w w8 [.disk p n D, .rdisk q n D, .box gx #[.int .i64 (n : Int), .int .i64 a1_1, .int .i64 a1_2] 24]) := ⟨by
      have h := HS7.out
      exact hs.perm [1, 0, 3] 4 (by decide) (by decide)⟩
    have k1_ : w8.cell? ⟨gx, 1, none⟩ = some (.int .i64 a1_1) := (HS8.out.boxed 2 rfl).cell 1 _ rfl
    have k2_ : w8.cell? ⟨gx, 2, none⟩ = some (.int .i64 a1_2) := (HS8.out.boxed 2 rfl).cell 2 _ rfl
    clear hs HV HS7 hD
    go_wp2_with fail
    refine (log_Open.part w w8 _ p n D a1_1 a1_2 HS8.out).mono ?_
    rintro e w9 ⟨v, rfl, hv⟩
    by_cases hE : Pure.opnE n D a1_1 a1_2 = 0
    rotate_left
    · rcases hv with ⟨-, rfl, hs⟩ | ⟨h0, -⟩
      rotate_left
      · exact absurd h0 hE
      have HS9 := Aside0.mk hs
      have k1_ : w9.cell? ⟨gx, 1, none⟩ = some (.int .i64 a1_1) := (hs.boxed 2 rfl).cell 1 _ rfl
      have k2_ : w9.cell? ⟨gx, 2, none⟩ = some (.int .i64 a1_2) := (hs.boxed 2 rfl).cell 2 _ rfl
      obtain ⟨E, hEE⟩ : ∃ E, E = Pure.opnE n D a1_1 a1_2 := ⟨_, rfl⟩
      have HE := Aside0.mk hEE
      rw [← hEE] at hE ⊢
      have q1 : decide (E = 0) = false := decide_eq_false hE
      have q2 : (E == 0) = false := beq_eq_false_iff_ne.mpr hE
      have HNE := Aside0.mk hE
      clear hs HS8 hEE hE
      go_wp2_with fail
      refine (undercroftref04_Open.part w w9 _ q n D a1_1 a1_2 (HS9.out.perm [1, 0, 2] 3 (by decide) (by decide)) HPP.out.1 HPP.out.2).mono ?_
      rintro e w10 ⟨v, rfl, hv⟩
      rcases hv with ⟨-, rfl, hs⟩ | ⟨h0, -⟩
      rotate_left
      · exact absurd (HE.out.trans h0) HNE.out
      rw [← HE.out]
      have HB := Aside0.mk hs.below
      clear hs HS9
      go_wp2_with fail
      go_ret
      exact ⟨rfl, HB.out⟩
    rcases hv with ⟨h0, -⟩ | ⟨-, g, rfl, hs⟩
    · exact absurd hE h0
    rw [hE]
    have HS9 := Aside0.mk hs
    have k1_ : w9.cell? ⟨gx, 1, none⟩ = some (.int .i64 a1_1) := (hs.boxed 3 rfl).cell 1 _ rfl
    have k2_ : w9.cell? ⟨gx, 2, none⟩ = some (.int .i64 a1_2) := (hs.boxed 3 rfl).cell 2 _ rfl
    have HE := Aside0.mk hE
    clear hs HS8 hE
    go_wp2_with fail
    refine (undercroftref04_Open.part w w9 _ q n D a1_1 a1_2 (HS9.out.perm [2, 0, 1, 3] 4 (by decide) (by decide)) HPP.out.1 HPP.out.2).mono ?_
    rintro e w10 ⟨v, rfl, hv⟩
    rcases hv with ⟨h0, -⟩ | ⟨-, g2, rfl, hs⟩
    · exact absurd HE.out h0
    rw [HE.out]
    have hA : Pure.areaB n a1_1 a1_2 = true := by
      by_cases h : Pure.areaB n a1_1 a1_2 = true
      · exact h
      · have h2 := HE.out
        unfold Pure.opnE at h2
        rw [if_neg h] at h2
        cases h2
    have hb := of_decide_eq_true hA
    obtain ⟨st, rfl⟩ := Int.eq_ofNat_of_zero_le hb.2.2.1
    obtain ⟨ln, rfl⟩ := Int.eq_ofNat_of_zero_le (show 0 ≤ a1_2 by omega)
    have HLN : Aside0 (8 ≤ ln ∧ ln ≤ 1024) := ⟨by omega⟩
    obtain ⟨ls, hls⟩ : ∃ ls, ls = Pure.opnS D (st : Int) (ln : Int) := ⟨_, rfl⟩
    have HLS : Aside0 (ls.len = ln ∧ ls.used = 0) := ⟨by rw [hls]; exact ⟨Int.toNat_natCast ln, rfl⟩⟩
    have h9 := hs.perm [2, 0, 1, 3, 4] 5 (by decide) (by decide)
    have h9 : X.Lies w w10 (Pure.logP g p ls :: Pure.logR g2 q ls :: .rdisk q n D :: .disk p n D :: .box gx #[.int .i64 (n : Int), .int .i64 (st : Int), .int .i64 (ln : Int)] 24 :: []) := by rw [hls]; exact h9
    obtain ⟨Al, cl, h10, -⟩ := Pure.logP_open h9
    obtain ⟨Al2, cl2, h11, -⟩ := Pure.logR_open (h10.perm [2, 0, 1, 3, 4] 5 (by decide) (by decide))
    have HS10 := Aside0.mk (h11.perm [2, 0, 6, 1, 3, 4, 5] 7 (by decide) (by decide))
    clear hs h9 h10 h11 hls hb hA HS9 HE
    go_wp2_with fail
    refine (log_Next.part w w10 _ g p ls _ HS10.out).mono ?_
    rintro e w11 ⟨rfl, hs⟩
    have HS11 := Aside0.mk hs
    clear hs HS10
    obtain ⟨R, hR⟩ : ∃ R : Nat, R = ls.len - 1 - ls.used := ⟨_, rfl⟩
    have hwr : wrap64 ((ln : Int) - 1) = (R : Int) := (Pure.wrap64_id (by have := HLN.out; omega) (by have := HLN.out; omega)).trans (by have := HLN.out; have := HLS.out; omega)
    have HR2 := Aside0.mk hR
    clear hR
    go_wp2_with fail
    refine start_ (n := 23) (S := (fun w' => X.Blk w' g2 (Pure.refC q ls (.slice Al2 ls.live.length cl2)) 45 ∧ X.Blk w' gx #[.int .i64 (n : Int), .int .i64 (st : Int), .int .i64 (ln : Int)] 24)) (ds := []) #[false, false, false, false, false, false, false, false, false, false, false, false, false, false, false, false, false, false, false, false, false, false, false] (by kernel_rfl) rfl rfl ⟨HS11.out.drew.boxed 1 rfl, HS11.out.drew.boxed 2 rfl⟩ (fun hHeld => ?_)
    have HSa := Aside0.mk (HS11.out.drew)
    generalize World.drew _ = wa at *
    clear HS11
    refine pure_ (i := 0) (N := some 90) (v := ?_) (a' := ?_) #[true, false, false, false, false, false, false, false, false, false, false, false, false, false, false, false, false, false, false, false, false, false, false] rfl rfl (by kernel_rfl) (fun _ _ _ h => h) (Or.inl ⟨by rfl, ?_⟩) ?_ ?_
    rotate_left
    · intro w'
      go_simp
      with_reducible rfl
    rotate_left
    · simp only [Act.put, List.setIfInBounds_toArray, List.set_cons_zero, List.set_cons_succ, i64_w, i32_w]
      rfl
    refine pure_ (i := 1) (N := some 91) (v := ?_) (a' := ?_) #[true, true, false, false, false, false, false, false, false, false, false, false, false, false, false, false, false, false, false, false, false, false, false] rfl rfl (by kernel_rfl) (fun _ _ _ h => h) (Or.inl ⟨by rfl, ?_⟩) ?_ ?_
    rotate_left
    · intro w'
      go_simp
      with_reducible rfl
    rotate_left
    · simp only [Act.put, List.setIfInBounds_toArray, List.set_cons_zero, List.set_cons_succ, i64_w, i32_w]
      rfl
    refine pure_ (i := 2) (N := some 92) (v := ?_) (a' := ?_) #[true, true, true, false, false, false, false, false, false, false, false, false, false, false, false, false, false, false, false, false, false, false, false] rfl rfl (by kernel_rfl) (fun _ _ _ h => h) (Or.inl ⟨by rfl, ?_⟩) ?_ ?_
    rotate_left
    · intro w'
      go_simp
      with_reducible rfl
    rotate_left
    · simp only [Act.put, List.setIfInBounds_toArray, List.set_cons_zero, List.set_cons_succ, i64_w, i32_w]
      rfl
    refine pure_ (i := 3) (N := some 93) (v := ?_) (a' := ?_) #[true, true, true, true, false, false, false, false, false, false, false, false, false, false, false, false, false, false, false, false, false, false, false] rfl rfl (by kernel_rfl) (fun _ _ _ h => h) (Or.inl ⟨by rfl, ?_⟩) ?_ ?_
    rotate_left
    · intro w'
      go_simp
      with_reducible rfl
    rotate_left
    · simp only [Act.put, List.setIfInBounds_toArray, List.set_cons_zero, List.set_cons_succ, i64_w, i32_w]
      rfl
    refine take_ (i := 4) (N := some 94) (v := .int .u64 ls.seq) (a' := ?_) #[true, true, true, true, true, false, false, false, false, false, false, false, false, false, false, false, false, false, false, false, false, false, false] rfl rfl (by kernel_rfl) (fun _ _ _ h => h) (Or.inl ⟨by rfl, ?_⟩) hHeld ?_ ?_
    · intro w' hs_
      obtain ⟨hs0, hs1⟩ := hs_
      exact (by have x_ : w'.cell? ⟨g2, 3, none⟩ = some (.int .u64 ls.seq) := hs0.cell 3 _ rfl; go_simp; done)
    rotate_left
    · simp only [Act.put, List.setIfInBounds_toArray, List.set_cons_zero, List.set_cons_succ, i64_w, i32_w]
      rfl
    refine pure_ (i := 5) (N := some 95) (v := .bool true) (a' := ?_) #[true, true, true, true, true, true, false, false, false, false, false, false, false, false, false, false, false, false, false, false, false, false, false] rfl rfl (by kernel_rfl) (fun _ _ _ h => h) (Or.inl ⟨by rfl, ?_⟩) ?_ ?_
    · intro w'
      exact (by go_simp; first | done | (rw [i64_w]; assumption))
    rotate_left
    · simp only [Act.put, List.setIfInBounds_toArray, List.set_cons_zero, List.set_cons_succ, i64_w, i32_w]
      rfl
    refine pure_ (i := 6) (N := some 96) (v := .bool true) (a' := ?_) #[true, true, true, true, true, true, true, false, false, false, false, false, false, false, false, false, false, false, false, false, false, false, false] rfl rfl (by kernel_rfl) (fun _ _ _ h => h) (Or.inl ⟨by rfl, ?_⟩) ?_ ?_
    · intro w'
      exact (by go_simp; first | done | (rw [i64_w]; assumption))
    rotate_left
    · simp only [Act.put, List.setIfInBounds_toArray, List.set_cons_zero, List.set_cons_succ, i64_w, i32_w]
      rfl
    refine pure_ (i := 7) (N := some 97) (v := ?_) (a' := ?_) #[true, true, true, true, true, true, true, true, false, false, false, false, false, false, false, false, false, false, false, false, false, false, false] rfl rfl (by kernel_rfl) (fun _ _ _ h => h) (Or.inl ⟨by rfl, ?_⟩) ?_ ?_
    rotate_left
    · intro w'
      go_simp
      with_reducible rfl
    rotate_left
    · simp only [Act.put, List.setIfInBounds_toArray, List.set_cons_zero, List.set_cons_succ, i64_w, i32_w]
      rfl
    refine pure_ (i := 8) (N := some 98) (v := ?_) (a' := ?_) #[true, true, true, true, true, true, true, true, true, false, false, false, false, false, false, false, false, false, false, false, false, false, false] rfl rfl (by kernel_rfl) (fun _ _ _ h => h) (Or.inl ⟨by rfl, ?_⟩) ?_ ?_
    rotate_left
    · intro w'
      go_simp
      with_reducible rfl
    rotate_left
    · simp only [Act.put, List.setIfInBounds_toArray, List.set_cons_zero, List.set_cons_succ, i64_w, i32_w]
      rfl
    refine pure_ (i := 9) (N := some 99) (v := ?_) (a' := ?_) #[true, true, true, true, true, true, true, true, true, true, false, false, false, false, false, false, false, false, false, false, false, false, false] rfl rfl (by kernel_rfl) (fun _ _ _ h => h) (Or.inl ⟨by rfl, ?_⟩) ?_ ?_
    rotate_left
    · intro w'
      go_simp
      with_reducible rfl
    rotate_left
    · simp only [Act.put, List.setIfInBounds_toArray, List.set_cons_zero, List.set_cons_succ, i64_w, i32_w]
      rfl
    refine pure_ (i := 10) (N := some 100) (v := ?_) (a' := ?_) #[true, true, true, true, true, true, true, true, true, true, true, false, false, false, false, false, false, false, false, false, false, false, false] rfl rfl (by kernel_rfl) (fun _ _ _ h => h) (Or.inl ⟨by rfl, ?_⟩) ?_ ?_
    rotate_left
    · intro w'
      go_simp
      with_reducible rfl
    rotate_left
    · simp only [Act.put, List.setIfInBounds_toArray, List.set_cons_zero, List.set_cons_succ, i64_w, i32_w]
      rfl
    refine take_ (i := 11) (N := some 101) (v := .int .i64 (ls.pl : Int)) (a' := ?_) #[true, true, true, true, true, true, true, true, true, true, true, true, false, false, false, false, false, false, false, false, false, false, false] rfl rfl (by kernel_rfl) (fun _ _ _ h => h) (Or.inl ⟨by rfl, ?_⟩) hHeld ?_ ?_
    · intro w' hs_
      obtain ⟨hs0, hs1⟩ := hs_
      exact (by have x_ : w'.cell? ⟨g2, 4, none⟩ = some (.int .i64 (ls.pl : Int)) := hs0.cell 4 _ rfl; go_simp; done)
    rotate_left
    · simp only [Act.put, List.setIfInBounds_toArray, List.set_cons_zero, List.set_cons_succ, i64_w, i32_w]
      rfl
    refine pure_ (i := 12) (N := some 102) (v := .bool true) (a' := ?_) #[true, true, true, true, true, true, true, true, true, true, true, true, true, false, false, false, false, false, false, false, false, false, false] rfl rfl (by kernel_rfl) (fun _ _ _ h => h) (Or.inl ⟨by rfl, ?_⟩) ?_ ?_
    · intro w'
      exact (by go_simp; first | done | (rw [i64_w]; assumption))
    rotate_left
    · simp only [Act.put, List.setIfInBounds_toArray, List.set_cons_zero, List.set_cons_succ, i64_w, i32_w]
      rfl
    refine pure_ (i := 13) (N := some 103) (v := .bool true) (a' := ?_) #[true, true, true, true, true, true, true, true, true, true, true, true, true, true, false, false, false, false, false, false, false, false, false] rfl rfl (by kernel_rfl) (fun _ _ _ h => h) (Or.inl ⟨by rfl, ?_⟩) ?_ ?_
    · intro w'
      exact (by go_simp; first | done | (rw [i64_w]; assumption))
    rotate_left
    · simp only [Act.put, List.setIfInBounds_toArray, List.set_cons_zero, List.set_cons_succ, i64_w, i32_w]
      rfl
    refine pure_ (i := 14) (N := some 104) (v := .bool true) (a' := ?_) #[true, true, true, true, true, true, true, true, true, true, true, true, true, true, true, false, false, false, false, false, false, false, false] rfl rfl (by kernel_rfl) (fun _ _ _ h => h) (Or.inl ⟨by rfl, ?_⟩) ?_ ?_
    · intro w'
      exact (by go_simp; first | done | (rw [i64_w]; assumption))
    rotate_left
    · simp only [Act.put, List.setIfInBounds_toArray, List.set_cons_zero, List.set_cons_succ, i64_w, i32_w]
      rfl
    refine pure_ (i := 15) (N := some 105) (v := ?_) (a' := ?_) #[true, true, true, true, true, true, true, true, true, true, true, true, true, true, true, true, false, false, false, false, false, false, false] rfl rfl (by kernel_rfl) (fun _ _ _ h => h) (Or.inl ⟨by rfl, ?_⟩) ?_ ?_
    rotate_left
    · intro w'
      go_simp
      with_reducible rfl
    rotate_left
    · simp only [Act.put, List.setIfInBounds_toArray, List.set_cons_zero, List.set_cons_succ, i64_w, i32_w]
      rfl
    refine pure_ (i := 17) (N := some 107) (v := ?_) (a' := ?_) #[true, true, true, true, true, true, true, true, true, true, true, true, true, true, true, true, false, true, false, false, false, false, false] rfl rfl (by kernel_rfl) (fun _ _ _ h => h) (Or.inl ⟨by rfl, ?_⟩) ?_ ?_
    rotate_left
    · intro w'
      go_simp
      with_reducible rfl
    rotate_left
    · simp only [Act.put, List.setIfInBounds_toArray, List.set_cons_zero, List.set_cons_succ, i64_w, i32_w]
      rfl
    refine take_ (i := 18) (N := some 108) (v := .int .i64 (ln : Int)) (a' := ?_) #[true, true, true, true, true, true, true, true, true, true, true, true, true, true, true, true, false, true, true, false, false, false, false] rfl rfl (by kernel_rfl) (fun _ _ _ h => h) (Or.inl ⟨by rfl, ?_⟩) hHeld ?_ ?_
    · intro w' hs_
      obtain ⟨hs0, hs1⟩ := hs_
      exact (by have x_ : w'.cell? ⟨gx, 2, none⟩ = some (.int .i64 (ln : Int)) := hs1.cell 2 _ rfl; go_simp; done)
    rotate_left
    · simp only [Act.put, List.setIfInBounds_toArray, List.set_cons_zero, List.set_cons_succ, i64_w, i32_w]
      rfl
    refine pure_ (i := 19) (N := some 109) (v := .int .i64 (R : Int)) (a' := ?_) #[true, true, true, true, true, true, true, true, true, true, true, true, true, true, true, true, false, true, true, true, false, false, false] rfl rfl (by kernel_rfl) (fun _ _ _ h => h) (Or.inl ⟨by rfl, ?_⟩) ?_ ?_
    · intro w'
      exact (by go_simp; first | done | (rw [i64_w]; assumption))
    rotate_left
    · simp only [Act.put, List.setIfInBounds_toArray, List.set_cons_zero, List.set_cons_succ, i64_w, i32_w]
      rfl
    refine one_ (i := 16) (N := some 106) #[true, true, true, true, true, true, true, true, true, true, true, true, true, true, true, true, true, true, true, true, false, false, false] rfl rfl (by kernel_rfl) (by decide) (fun K hK => ?_)
    refine goes_ Try.func18 (by kernel_rfl) rfl #[.pointer (some ⟨g, 0, none⟩)] (by rfl) rfl rfl (by (try simp only [List.map_toArray, List.map_cons, List.map_nil]); first | done | rfl) ?_
    refine (log_Room.part w wa _ g p ls _ HSa.out (by have := HLN.out; have := HLS.out; omega) (by have := HLS.out; omega)).mono ?_
    rintro e wb ⟨rfl, hs⟩
    rw [← HR2.out]
    have HSb := Aside0.mk hs
    refine ⟨_, rfl, ?_⟩
    clear hs HSa hHeld
    refine hK.out _ _ ⟨HSb.out.boxed 1 rfl, HSb.out.boxed 2 rfl⟩ (fun hHeld => ?_)
    clear hK K
    refine norm_ (a' := ?_) ?_ ?_
    rotate_left
    · show Act.put _ (some 106) _ = _
      simp only [Act.put, List.setIfInBounds_toArray, List.set_cons_zero, List.set_cons_succ, i64_w, i32_w]
      rfl
    refine pure_ (i := 20) (N := some 110) (v := .bool true) (a' := ?_) #[true, true, true, true, true, true, true, true, true, true, true, true, true, true, true, true, true, true, true, true, true, false, false] rfl rfl (by kernel_rfl) (fun _ _ _ h => h) (Or.inl ⟨by rfl, ?_⟩) ?_ ?_
    · intro w'
      exact (by go_simp; first | done | (rw [i64_w]; assumption))
    rotate_left
    · simp only [Act.put, List.setIfInBounds_toArray, List.set_cons_zero, List.set_cons_succ, i64_w, i32_w]
      rfl
    refine pure_ (i := 21) (N := some 111) (v := .bool true) (a' := ?_) #[true, true, true, true, true, true, true, true, true, true, true, true, true, true, true, true, true, true, true, true, true, true, false] rfl rfl (by kernel_rfl) (fun _ _ _ h => h) (Or.inl ⟨by rfl, ?_⟩) ?_ ?_
    · intro w'
      exact (by go_simp; first | done | (rw [i64_w]; assumption))
    rotate_left
    · simp only [Act.put, List.setIfInBounds_toArray, List.set_cons_zero, List.set_cons_succ, i64_w, i32_w]
      rfl
    refine pure_ (i := 22) (N := some 4) (v := ?_) (a' := ?_) #[true, true, true, true, true, true, true, true, true, true, true, true, true, true, true, true, true, true, true, true, true, true, true] rfl rfl (by kernel_rfl) (fun _ _ _ h => h) (Or.inl ⟨by rfl, ?_⟩) ?_ ?_
    rotate_left
    · intro w'
      go_simp
      with_reducible rfl
    rotate_left
    · simp only [Act.put, List.setIfInBounds_toArray, List.set_cons_zero, List.set_cons_succ, i64_w, i32_w]
      rfl
    clear hHeld
    refine done_ (by kernel_rfl) ?_
    go_wp2
    go_ret
    exact ⟨rfl, HSb.out.below⟩
end Go.Proofs.Ytlbfpjhnpnbikaa.U
