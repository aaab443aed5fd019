/- Ux46: what this claim uses. Laid by slim.py (ours). -/
import Derived.Test.YtlbfpjhnpnbikaaKUx9
import Derived.Test.YtlbfpjhnpnbikaaKUx50
import Derived.Test.YtlbfpjhnpnbikaaKUx18
import Derived.Test.YtlbfpjhnpnbikaaKUx22
import Derived.Test.YtlbfpjhnpnbikaaKUx30
import Derived.Test.YtlbfpjhnpnbikaaKUx37
import Derived.Test.YtlbfpjhnpnbikaaKUx39
import Derived.Test.YtlbfpjhnpnbikaaKUx43
namespace Go.Proofs.Ytlbfpjhnpnbikaa.U
open Go.RowKit Go.Proofs.YtlbfpjhnpnbikaaW.PrintWords Go.Proofs.YtlbfpjhnpnbikaaW.PrintLast Go.Proofs.YtlbfpjhnpnbikaaW.PrintMore
attribute [local go_sem] max2_int min2_int max_two min_two max_three min_three max_four min_four
set_option linter.unusedVariables false
set_option linter.unusedSimpArgs false
def undercroftlaw04_LogRoom.f (a b c : Int) (l : List S62) : Option Bool := if okD4 l = true then some true else none
set_option maxHeartbeats 16000000 in
set_option maxRecDepth 100000 in
theorem undercroftlaw04_LogRoom.calls (a0_0 a0_1 a0_2 : Int) (A1 : Option Addr) (c1 : Nat) (l1 : List S62) (r : Bool) (w : World) (hr1 : Kd.C k62 w A1 l1.length l1) (hc1 : l1.length ≤ c1) (h : undercroftlaw04_LogRoom.f a0_0 a0_1 a0_2 l1 = some r) :
    Calls Try.prog 6 #[.agg #[.int .i64 a0_0, .int .i64 a0_1, .int .i64 a0_2], .slice A1 l1.length c1] w fun e w' => e = .returned (.bool r) ∧ Below w.heap.size w w' := by
  unfold undercroftlaw04_LogRoom.f at h
  by_cases hok : okD4 l1 = true
  rotate_left
  · rw [if_neg hok] at h
    cases h
  rw [if_pos hok] at h
  obtain rfl := Option.some.inj h
  have HC1 := Aside0.mk hc1
  have HCA : Aside0 (∀ (i : Nat) (x : S62) (a : Int), (l1.take 24)[i]? = some x → 0 ≤ a ∧ a < 18446744073709551616 → Pure.Came a x.f1.f1 x.f1.f2) := ⟨fun i x a hx ha => okD4_at hok hx ha⟩
  have HL : Aside0 (∀ w', Below w.heap.size w w' → Kd.C k62 w' A1 (l1.take 24).length (l1.take 24)) := ⟨fun w' hb => take24 (Kd.C_below hr1 hb)⟩
  have HLL : Aside0 ((l1.take 24).length ≤ 24 ∧ (l1.take 24).length ≤ c1) := ⟨by rw [List.length_take]; omega⟩
  have HS0 := Aside0.mk ((X.Lies.start w).alloc #[.int .i64 a0_0, .int .i64 a0_1, .int .i64 a0_2] 24)
  clear h hok hr1 hc1
  go_enter Try.func6, Try.ntmps6
  go_wp2_with fail
  refine (undercroftlaw04_alive.yes _).mono ?_
  rintro e w2 ⟨rfl, hb⟩
  have HS2 := Aside0.mk (HS0.out.grow hb)
  clear hb HS0
  obtain ⟨gx, hgx⟩ : ∃ gx, gx = w.heap.size := ⟨_, rfl⟩
  rw [← hgx] at HS2 ⊢
  clear hgx
  have HRA := Aside0.mk (Pure.blk_range (HS2.out.boxed 0 rfl))
  go_wp2_with ((with_reducible refine gate_ (.load 24 (.tmp 2)) rfl ?_); (refine wpList_load_mid rfl 24 (.tmp 2) rfl gx 0 rfl [.int .i64 a0_0, .int .i64 a0_1, .int .i64 a0_2] _ HRA.out Try.underlying24 rfl info_area ?_))
  refine (undercroftlaw04_opened.part w w2 _ a0_0 a0_1 a0_2 HS2.out).mono ?_
  rintro e w3 h
  rcases h with ⟨-, rfl, hs⟩ | ⟨n, st, ln, p, g, q, g2, rfl, rfl, rfl, hn1, hn2, hA, rfl, hs⟩
  · have HB := Aside0.mk (hs.alloc #[.pointer none, .pointer none, .pointer none] 50).below
    clear hs HS2 HRA
    go_wp2_with fail
    go_ret
    exact ⟨rfl, HB.out⟩
  have HN : Aside0 (1 ≤ n ∧ n ≤ 1024) := ⟨hn1, hn2⟩
  have HA := Aside0.mk hA
  obtain ⟨gp, hgp⟩ : ∃ gp, gp = w3.heap.size := ⟨_, rfl⟩
  have HS3 : Aside0 (X.Lies w (w3.alloc (.cells #[.pointer (some ⟨p, 0, none⟩), .pointer (some ⟨g, 0, none⟩), .pointer (some ⟨g2, 0, none⟩)] 50)) [.disk p n (Pure.newD n st ln), Pure.logP g p (Pure.newS st ln), .box gp #[.pointer (some ⟨p, 0, none⟩), .pointer (some ⟨g, 0, none⟩), .pointer (some ⟨g2, 0, none⟩)] 50, .box gx #[.int .i64 (n : Int), .int .i64 (st : Int), .int .i64 (ln : Int)] 24]) := ⟨by rw [hgp]; exact (hs.alloc _ _).perm [1, 2, 0, 5] 6 (by decide) (by decide)⟩
  have HSO := Aside0.mk (Pure.new_sound hn1 hn2 hA)
  clear hn1 hn2 hA hs HS2 HRA
  obtain ⟨R1, hR1⟩ : ∃ R1 : Nat, R1 = ln - 1 := ⟨_, rfl⟩
  have HR1 := Aside0.mk hR1
  have HWR : Aside0 (wrap64 ((ln : Int) - 1) = (R1 : Int)) := ⟨(Pure.wrap64_id (by have := Pure.area_in HA.out; omega) (by have := Pure.area_in HA.out; omega)).trans (by have := Pure.area_in HA.out; omega)⟩
  have k2_ : (w3.alloc (.cells #[.pointer (some ⟨p, 0, none⟩), .pointer (some ⟨g, 0, none⟩), .pointer (some ⟨g2, 0, none⟩)] 50)).cell? ⟨gx, 2, none⟩ = some (.int .i64 (ln : Int)) := (HS3.out.boxed 3 rfl).cell 2 _ rfl
  clear hR1
  go_wp2_with fail
  rw [HWR.out]
  refine (undercroftlaw04_few.part A1 c1 l1 _ HC1.out).mono ?_
  rintro e w' ⟨rfl, rfl⟩
  rw [← hgp]
  clear hgp k2_
  obtain ⟨l, hl⟩ : ∃ l, l = l1.take 24 := ⟨_, rfl⟩
  rw [← hl] at HL HLL HCA ⊢
  clear hl
  generalize World.alloc _ _ = w4 at *
  go_wp2_with fail
  go_loopg [7, 8, 10, 11, 12, 13, 14, 15] l.length (fun gk v7_ v8_ v10_ v11_ v12_ v13_ v14_ v15_ w' => ∃ (i : Nat) (d : X.DS) (ls : Pure.LS) (R : Nat), v10_ = .int .i64 (i : Int) ∧ v7_ = .int .i64 (R : Int) ∧ v8_ = .int .u64 ls.seq ∧ Aside0 (gk + i = l.length) ∧ Aside0 (Pure.Sound n d ls i) ∧ Aside0 (ls.len = ln) ∧ Aside0 (R = ls.len - 1 - ls.used) ∧ Aside0 (X.Lies w w' [.disk p n d, Pure.logP g p ls, .box gp #[.pointer (some ⟨p, 0, none⟩), .pointer (some ⟨g, 0, none⟩), .pointer (some ⟨g2, 0, none⟩)] 50, .box gx #[.int .i64 (n : Int), .int .i64 (st : Int), .int .i64 (ln : Int)] 24]))
  case atStart => exact ⟨0, _, _, R1, rfl, rfl, rfl, ⟨by omega⟩, HSO, ⟨rfl⟩, ⟨by rw [HR1.out]; rfl⟩, HS3⟩
  case round =>
    clear HS3 HSO
    obtain ⟨i, d, ls, R, rfl, rfl, rfl, HK, HSO, HSL, HRN, HS⟩ := hrel
    by_cases hlt : i < l.length
    · have q0 : decide ((i : Int) < (l.length : Int)) = true := decide_eq_true (by omega)
      have q00 : decide (i < l.length) = true := decide_eq_true hlt
      obtain ⟨x, hx⟩ : ∃ x, l[i]? = some x := ⟨_, List.getElem?_eq_getElem hlt⟩
      obtain ⟨ga, oa, Aw, cw, Ar, cr, Ab, cb, rfl, hrg, hdw, hdr, -⟩ := deed4_at (HL.out w (Below.refl _ _)) hx
      have HRG := Aside0.mk hrg
      have HDW := Aside0.mk hdw
      have HDR := Aside0.mk hdr
      have HCM := Aside0.mk (HCA.out i x ls.seq hx HSO.out.ok.sq)
      have HKB := Aside0.mk hlt
      have r0_ : wr.cell? ⟨ga, oa + i * 5, none⟩ = some (.int .i64 x.f0) := range_below4 hrg HS.out.below 0 _ rfl
      obtain ⟨b, -, hb4, hand⟩ := and3 x.f0
      have HB4 := Aside0.mk hb4
      clear hx hrg hdw hdr hb4
      by_cases hb : b = 1
      · subst hb
        have c1_ : wr.cell? ⟨gp, 1, none⟩ = some (.pointer (some ⟨g, 0, none⟩)) := (HS.out.boxed 2 rfl).cell 1 _ rfl
        go_wp2_with fail
        clear hlt
        refine (log_Home.part w wr _ g p n d ls HS.out HSO.out.ok (by have := HSO.out.pend; have := HKB.out; have := HLL.out; omega) (by have := HSO.out.live; have := HKB.out; have := HLL.out; omega)).mono ?_
        rintro e wc ⟨rfl, hs⟩
        have HSc := Aside0.mk hs
        have k2_ : wc.cell? ⟨gx, 2, none⟩ = some (.int .i64 (ln : Int)) := (hs.boxed 3 rfl).cell 2 _ rfl
        have c1c_ : wc.cell? ⟨gp, 1, none⟩ = some (.pointer (some ⟨g, 0, none⟩)) := (hs.boxed 2 rfl).cell 1 _ rfl
        have HSN := Aside0.mk HSO.out.home
        have HSZ : Aside0 ((Pure.homeS ls).len = ln) := ⟨HSL.out⟩
        have HQ : Aside0 (Value.int IntKind.u64 ls.seq = Value.int IntKind.u64 (Pure.homeS ls).seq) := ⟨rfl⟩
        have HRN2 : Aside0 (R1 = (Pure.homeS ls).len - 1 - (Pure.homeS ls).used) := ⟨by rw [HR1.out, ← HSL.out]; rfl⟩
        have hsq : (Pure.homeS ls).seq = ls.seq := rfl
        clear hs HS HSO HSL c1_ HRN
        go_wp2_with fail
        rw [HWR.out]
        clear k2_ c1c_
        obtain ⟨s2, hs2⟩ : ∃ s2, s2 = Pure.homeS ls := ⟨_, rfl⟩
        obtain ⟨d2, hd2⟩ : ∃ d2, d2 = Pure.homeD d ls := ⟨_, rfl⟩
        rw [← hs2] at HSN HSZ HSc HQ hsq HRN2
        rw [← hd2] at HSN HSc
        clear hs2 hd2
        obtain ⟨Alz, clz, hz, -⟩ := Pure.logP_open HSc.out.swap
        have HZ := Aside0.mk hz
        clear hz HSc
        refine (log_Next.part w wc _ g p _ _ HZ.out).mono ?_
        rintro e wy ⟨rfl, hs⟩
        have HY := Aside0.mk hs
        have c1_ : wy.cell? ⟨gp, 1, none⟩ = some (.pointer (some ⟨g, 0, none⟩)) := (hs.boxed 3 rfl).cell 1 _ rfl
        clear hs HZ
        go_wp2_with fail
        refine (log_Room.part w wy _ g p _ _ HY.out HSN.out.ok.l1 HSN.out.ok.us).mono ?_
        rintro e wz ⟨rfl, hs⟩
        rw [← HRN2.out]
        have HW : Aside0 (X.Lies w wz [.disk p n (d2), Pure.logP g p (s2), .box gp #[.pointer (some ⟨p, 0, none⟩), .pointer (some ⟨g, 0, none⟩), .pointer (some ⟨g2, 0, none⟩)] 50, .box gx #[.int .i64 (n : Int), .int .i64 (st : Int), .int .i64 (ln : Int)] 24]) := ⟨(Pure.logP_close (hs.perm [0, 1, 2, 3, 4] 5 (by decide) (by decide))).swap⟩
        have k2_ : wz.cell? ⟨gx, 2, none⟩ = some (.int .i64 (ln : Int)) := (HW.out.boxed 3 rfl).cell 2 _ rfl
        have HPL : Aside0 ((s2).pl < R1) := ⟨by have := HSN.out.ok.pl; have := HR1.out; have := HSZ.out; omega⟩
        obtain ⟨pl, hpl⟩ : ∃ pl, pl = (s2).pl := ⟨_, rfl⟩
        rw [← hpl] at HPL ⊢
        have q7 : decide ((pl : Int) < 0) = false := decide_eq_false (by omega)
        have q8 : decide ((pl : Int) ≥ (R1 : Int)) = false := decide_eq_false (by have := HPL.out; omega)
        have q9 : decide ((R1 : Int) ≤ (pl : Int)) = false := decide_eq_false (by have := HPL.out; omega)
        have q10 : decide (R1 ≤ pl) = false := decide_eq_false (by have := HPL.out; omega)
        have q11 : decide ((pl : Int) ≥ wrap64 ((ln : Int) - 1)) = false := by rw [HWR.out]; exact q8
        have q12 : decide (wrap64 ((ln : Int) - 1) ≤ (pl : Int)) = false := by rw [HWR.out]; exact q9
        clear hs HY c1_ hpl
        go_wp2_with fail
        cases gk with
        | zero => exact absurd HK.out (by have := HKB.out; omega)
        | succ k1 =>
          go_roundg k1
          case measure => omega
          case rel => exact ⟨i + 1, _, _, R1, by rw [Pure.sucw i (by have := HKB.out; have := HLL.out; omega)]; rfl, rfl, by first | rfl | exact HQ.out, ⟨by have := HK.out; omega⟩, HSN, HSZ, HRN2, HW⟩
      · have q5 : ((b : Int) == 1) = false := beq_eq_false_iff_ne.mpr (by omega)
        have q6 : decide (b = 1) = false := decide_eq_false hb
        have q66 : decide ((b : Int) = 1) = false := decide_eq_false (by omega)
        go_wp2_with fail
        refine start_ (n := 20) (S := (fun w' => X.Blk w' gp #[.pointer (some ⟨p, 0, none⟩), .pointer (some ⟨g, 0, none⟩), .pointer (some ⟨g2, 0, none⟩)] 50 ∧ w'.rangeAt ga (oa + i * 5) [.int .i64 x.f0, .int .u64 x.f1.f0, .slice Aw x.f1.f1.length cw, .slice Ar x.f1.f2.length cr, .slice Ab x.f2.length cb])) (ds := []) #[false, false, false, false, false, false, false, false, false, false, false, false, false, false, false, false, false, false, false, false] (by kernel_rfl) rfl rfl ⟨HS.out.drew.boxed 2 rfl, range_below4 HRG.out (X.Lies.below HS.out.drew)⟩ (fun hHeld => ?_)
        have HSa := Aside0.mk (HS.out.drew)
        generalize World.drew _ = wa at *
        clear HS
        refine pure_ (i := 0) (N := some 50) (v := ?_) (a' := ?_) #[true, false, false, false, false, false, false, false, false, false, false, false, false, false, false, false, false, false, false, false] rfl rfl (by kernel_rfl) (fun _ _ _ h => h) (Or.inl ⟨by rfl, ?_⟩) ?_ ?_
        rotate_left
        · intro w'
          go_simp
          with_reducible rfl
        rotate_left
        · simp only [Act.put, List.setIfInBounds_toArray, List.set_cons_zero, List.set_cons_succ, i64_w, i32_w]
          rfl
        refine take_ (i := 1) (N := some 51) (v := .pointer (some ⟨g, 0, none⟩)) (a' := ?_) #[true, true, false, false, false, false, false, false, false, false, false, false, false, false, false, false, false, false, false, false] rfl rfl (by kernel_rfl) (fun _ _ _ h => h) (Or.inl ⟨by rfl, ?_⟩) hHeld ?_ ?_
        · intro w' hs_
          obtain ⟨hs0, hs1⟩ := hs_
          exact (by have x_ : w'.cell? ⟨gp, 1, none⟩ = some (.pointer (some ⟨g, 0, none⟩)) := hs0.cell 1 _ rfl; go_simp; done)
        rotate_left
        · simp only [Act.put, List.setIfInBounds_toArray, List.set_cons_zero, List.set_cons_succ, i64_w, i32_w]
          rfl
        refine pure_ (i := 2) (N := some 52) (v := ?_) (a' := ?_) #[true, true, true, false, false, false, false, false, false, false, false, false, false, false, false, false, false, false, false, false] rfl rfl (by kernel_rfl) (fun _ _ _ h => h) (Or.inl ⟨by rfl, ?_⟩) ?_ ?_
        rotate_left
        · intro w'
          go_simp
          with_reducible rfl
        rotate_left
        · simp only [Act.put, List.setIfInBounds_toArray, List.set_cons_zero, List.set_cons_succ, i64_w, i32_w]
          rfl
        refine pure_ (i := 3) (N := some 53) (v := ?_) (a' := ?_) #[true, true, true, true, false, false, false, false, false, false, false, false, false, false, false, false, false, false, false, false] rfl rfl (by kernel_rfl) (fun _ _ _ h => h) (Or.inl ⟨by rfl, ?_⟩) ?_ ?_
        rotate_left
        · intro w'
          go_simp
          with_reducible rfl
        rotate_left
        · simp only [Act.put, List.setIfInBounds_toArray, List.set_cons_zero, List.set_cons_succ, i64_w, i32_w]
          rfl
        refine pure_ (i := 4) (N := some 54) (v := ?_) (a' := ?_) #[true, true, true, true, true, false, false, false, false, false, false, false, false, false, false, false, false, false, false, false] rfl rfl (by kernel_rfl) (fun _ _ _ h => h) (Or.inl ⟨by rfl, ?_⟩) ?_ ?_
        rotate_left
        · intro w'
          go_simp
          with_reducible rfl
        rotate_left
        · simp only [Act.put, List.setIfInBounds_toArray, List.set_cons_zero, List.set_cons_succ, i64_w, i32_w]
          rfl
        refine pure_ (i := 5) (N := some 55) (v := ?_) (a' := ?_) #[true, true, true, true, true, true, false, false, false, false, false, false, false, false, false, false, false, false, false, false] rfl rfl (by kernel_rfl) (fun _ _ _ h => h) (Or.inl ⟨by rfl, ?_⟩) ?_ ?_
        rotate_left
        · intro w'
          go_simp
          with_reducible rfl
        rotate_left
        · simp only [Act.put, List.setIfInBounds_toArray, List.set_cons_zero, List.set_cons_succ, i64_w, i32_w]
          rfl
        refine pure_ (i := 6) (N := some 56) (v := ?_) (a' := ?_) #[true, true, true, true, true, true, true, false, false, false, false, false, false, false, false, false, false, false, false, false] rfl rfl (by kernel_rfl) (fun _ _ _ h => h) (Or.inl ⟨by rfl, ?_⟩) ?_ ?_
        rotate_left
        · intro w'
          go_simp
          with_reducible rfl
        rotate_left
        · simp only [Act.put, List.setIfInBounds_toArray, List.set_cons_zero, List.set_cons_succ, i64_w, i32_w]
          rfl
        refine take_ (i := 7) (N := some 57) (v := .slice Aw x.f1.f1.length cw) (a' := ?_) #[true, true, true, true, true, true, true, true, false, false, false, false, false, false, false, false, false, false, false, false] rfl rfl (by kernel_rfl) (fun _ _ _ h => h) (Or.inl ⟨by rfl, ?_⟩) hHeld ?_ ?_
        · intro w' hs_
          obtain ⟨hs0, hs1⟩ := hs_
          exact (by have x_ : w'.cell? ⟨ga, oa + i * 5 + 2, none⟩ = some (.slice Aw x.f1.f1.length cw) := hs1 2 _ rfl; have y_ : w'.cell? ⟨ga, oa + i * 5 + 1 + 1, none⟩ = some (.slice Aw x.f1.f1.length cw) := x_; go_simp; done)
        rotate_left
        · simp only [Act.put, List.setIfInBounds_toArray, List.set_cons_zero, List.set_cons_succ, i64_w, i32_w]
          rfl
        refine pure_ (i := 8) (N := some 58) (v := ?_) (a' := ?_) #[true, true, true, true, true, true, true, true, true, false, false, false, false, false, false, false, false, false, false, false] rfl rfl (by kernel_rfl) (fun _ _ _ h => h) (Or.inl ⟨by rfl, ?_⟩) ?_ ?_
        rotate_left
        · intro w'
          go_simp
          with_reducible rfl
        rotate_left
        · simp only [Act.put, List.setIfInBounds_toArray, List.set_cons_zero, List.set_cons_succ, i64_w, i32_w]
          rfl
        refine pure_ (i := 9) (N := some 59) (v := ?_) (a' := ?_) #[true, true, true, true, true, true, true, true, true, true, false, false, false, false, false, false, false, false, false, false] rfl rfl (by kernel_rfl) (fun _ _ _ h => h) (Or.inl ⟨by rfl, ?_⟩) ?_ ?_
        rotate_left
        · intro w'
          go_simp
          with_reducible rfl
        rotate_left
        · simp only [Act.put, List.setIfInBounds_toArray, List.set_cons_zero, List.set_cons_succ, i64_w, i32_w]
          rfl
        refine pure_ (i := 10) (N := some 60) (v := ?_) (a' := ?_) #[true, true, true, true, true, true, true, true, true, true, true, false, false, false, false, false, false, false, false, false] rfl rfl (by kernel_rfl) (fun _ _ _ h => h) (Or.inl ⟨by rfl, ?_⟩) ?_ ?_
        rotate_left
        · intro w'
          go_simp
          with_reducible rfl
        rotate_left
        · simp only [Act.put, List.setIfInBounds_toArray, List.set_cons_zero, List.set_cons_succ, i64_w, i32_w]
          rfl
        refine pure_ (i := 11) (N := some 61) (v := ?_) (a' := ?_) #[true, true, true, true, true, true, true, true, true, true, true, true, false, false, false, false, false, false, false, false] rfl rfl (by kernel_rfl) (fun _ _ _ h => h) (Or.inl ⟨by rfl, ?_⟩) ?_ ?_
        rotate_left
        · intro w'
          go_simp
          with_reducible rfl
        rotate_left
        · simp only [Act.put, List.setIfInBounds_toArray, List.set_cons_zero, List.set_cons_succ, i64_w, i32_w]
          rfl
        refine pure_ (i := 12) (N := some 62) (v := ?_) (a' := ?_) #[true, true, true, true, true, true, true, true, true, true, true, true, true, false, false, false, false, false, false, false] rfl rfl (by kernel_rfl) (fun _ _ _ h => h) (Or.inl ⟨by rfl, ?_⟩) ?_ ?_
        rotate_left
        · intro w'
          go_simp
          with_reducible rfl
        rotate_left
        · simp only [Act.put, List.setIfInBounds_toArray, List.set_cons_zero, List.set_cons_succ, i64_w, i32_w]
          rfl
        refine take_ (i := 13) (N := some 63) (v := .slice Ar x.f1.f2.length cr) (a' := ?_) #[true, true, true, true, true, true, true, true, true, true, true, true, true, true, false, false, false, false, false, false] rfl rfl (by kernel_rfl) (fun _ _ _ h => h) (Or.inl ⟨by rfl, ?_⟩) hHeld ?_ ?_
        · intro w' hs_
          obtain ⟨hs0, hs1⟩ := hs_
          exact (by have x_ : w'.cell? ⟨ga, oa + i * 5 + 3, none⟩ = some (.slice Ar x.f1.f2.length cr) := hs1 3 _ rfl; have y_ : w'.cell? ⟨ga, oa + i * 5 + 1 + 2, none⟩ = some (.slice Ar x.f1.f2.length cr) := x_; go_simp; done)
        rotate_left
        · simp only [Act.put, List.setIfInBounds_toArray, List.set_cons_zero, List.set_cons_succ, i64_w, i32_w]
          rfl
        refine one_ (i := 14) (N := some 64) #[true, true, true, true, true, true, true, true, true, true, true, true, true, true, true, false, false, false, false, false] rfl rfl (by kernel_rfl) (by decide) (fun K hK => ?_)
        refine goes_ Try.func22 (by kernel_rfl) rfl #[.pointer (some ⟨g, 0, none⟩), .slice Aw x.f1.f1.length cw, .slice Ar x.f1.f2.length cr] (by rfl) rfl rfl (by (try simp only [List.map_toArray, List.map_cons, List.map_nil]); first | done | rfl) ?_
        refine (log_Append.part w wa _ g p n d ls Aw cw x.f1.f1 Ar cr x.f1.f2 HSa.out HSO.out.ok (X.Rd.arg HDW.out.2) HDW.out.1 (X.Rd.arg HDR.out.2) HDR.out.1 HCM.out (by have := HSO.out.pend; have := HKB.out; have := HLL.out; omega) (by have := HSO.out.live; have := HKB.out; have := HLL.out; omega)).mono ?_
        rintro e wb ⟨rfl, hs⟩
        have HSb := Aside0.mk hs
        refine ⟨_, rfl, ?_⟩
        clear hs HSa hHeld
        refine hK.out _ _ ⟨HSb.out.boxed 2 rfl, range_below4 HRG.out (X.Lies.below HSb.out)⟩ (fun hHeld => ?_)
        clear hK K
        refine norm_ (a' := ?_) ?_ ?_
        rotate_left
        · show Act.put _ (some 64) _ = _
          simp only [Act.put, List.setIfInBounds_toArray, List.set_cons_zero, List.set_cons_succ, i64_w, i32_w]
          rfl
        refine pure_ (i := 15) (N := some 49) (v := ?_) (a' := ?_) #[true, true, true, true, true, true, true, true, true, true, true, true, true, true, true, true, false, false, false, false] rfl rfl (by kernel_rfl) (fun _ _ _ h => h) (Or.inl ⟨by rfl, ?_⟩) ?_ ?_
        rotate_left
        · intro w'
          go_simp
          with_reducible rfl
        rotate_left
        · simp only [Act.put, List.setIfInBounds_toArray, List.set_cons_zero, List.set_cons_succ, i64_w, i32_w]
          rfl
        refine pure_ (i := 16) (N := some 65) (v := ?_) (a' := ?_) #[true, true, true, true, true, true, true, true, true, true, true, true, true, true, true, true, true, false, false, false] rfl rfl (by kernel_rfl) (fun _ _ _ h => h) (Or.inl ⟨by rfl, ?_⟩) ?_ ?_
        rotate_left
        · intro w'
          go_simp
          with_reducible rfl
        rotate_left
        · simp only [Act.put, List.setIfInBounds_toArray, List.set_cons_zero, List.set_cons_succ, i64_w, i32_w]
          rfl
        refine pure_ (i := 17) (N := some 66) (v := ?_) (a' := ?_) #[true, true, true, true, true, true, true, true, true, true, true, true, true, true, true, true, true, true, false, false] rfl rfl (by kernel_rfl) (fun _ _ _ h => h) (Or.inl ⟨by rfl, ?_⟩) ?_ ?_
        rotate_left
        · intro w'
          go_simp
          with_reducible rfl
        rotate_left
        · simp only [Act.put, List.setIfInBounds_toArray, List.set_cons_zero, List.set_cons_succ, i64_w, i32_w]
          rfl
        refine pure_ (i := 18) (N := some 11) (v := ?_) (a' := ?_) #[true, true, true, true, true, true, true, true, true, true, true, true, true, true, true, true, true, true, true, false] rfl rfl (by kernel_rfl) (fun _ _ _ h => h) (Or.inl ⟨by rfl, ?_⟩) ?_ ?_
        rotate_left
        · intro w'
          go_simp
          with_reducible rfl
        rotate_left
        · simp only [Act.put, List.setIfInBounds_toArray, List.set_cons_zero, List.set_cons_succ, i64_w, i32_w]
          rfl
        refine pure_ (i := 19) (N := some 12) (v := ?_) (a' := ?_) #[true, true, true, true, true, true, true, true, true, true, true, true, true, true, true, true, true, true, true, true] rfl rfl (by kernel_rfl) (fun _ _ _ h => h) (Or.inl ⟨by rfl, ?_⟩) ?_ ?_
        rotate_left
        · intro w'
          go_simp
          with_reducible rfl
        rotate_left
        · simp only [Act.put, List.setIfInBounds_toArray, List.set_cons_zero, List.set_cons_succ, i64_w, i32_w]
          rfl
        clear hHeld
        refine done_ (by kernel_rfl) ?_
        clear r0_
        have r2_ : wb.cell? ⟨ga, oa + i * 5 + 1 + 1, none⟩ = some (.slice Aw x.f1.f1.length cw) := range_below4 HRG.out HSb.out.below 2 _ rfl
        have c1b_ : wb.cell? ⟨gp, 1, none⟩ = some (.pointer (some ⟨g, 0, none⟩)) := (HSb.out.boxed 2 rfl).cell 1 _ rfl
        have HSN := Aside0.mk (HSO.out.app HCM.out)
        have HSZ : Aside0 ((Pure.appS n ls x.f1.f1 x.f1.f2).len = ln) := ⟨by have := Pure.appS_st n ls x.f1.f1 x.f1.f2; have := HSL.out; omega⟩
        have HWL : Aside0 (x.f1.f1.length ≤ 4398046510976) := ⟨HCM.out.lw⟩
        have hcase := Pure.appE_of (ws := x.f1.f1) (rs := x.f1.f2) HSO.out.ok
        have hQ0 : Pure.appQ n ls x.f1.f1 x.f1.f2 = if Pure.appE n ls x.f1.f1 x.f1.f2 = 0 then ls.seq else 0 := rfl
        obtain ⟨d2, hd2⟩ : ∃ d2, d2 = Pure.appD n d ls x.f1.f1 x.f1.f2 := ⟨_, rfl⟩
        obtain ⟨s2, hs2⟩ : ∃ s2, s2 = Pure.appS n ls x.f1.f1 x.f1.f2 := ⟨_, rfl⟩
        obtain ⟨E, hE⟩ : ∃ E, E = Pure.appE n ls x.f1.f1 x.f1.f2 := ⟨_, rfl⟩
        rw [← hd2, ← hs2] at HSN HSb
        rw [← hs2] at HSZ hcase
        rw [← hE] at hcase hQ0 ⊢
        rw [hQ0]
        obtain ⟨m, hm⟩ : ∃ m, m = x.f1.f1.length := ⟨_, rfl⟩
        rw [← hm] at hcase r2_ HWL
        have hw2 : wrap64 ((m : Int) + 2) = ((m + 2 : Nat) : Int) := (Pure.wrap64_id (by have := HWL.out; omega) (by have := HWL.out; omega)).trans (by omega)
        have HSQ2 : Aside0 (0 ≤ ls.seq ∧ ls.seq < 18446744073709551616) := ⟨HSO.out.ok.sq⟩
        have HRN0 : Aside0 (R = ls.room) := ⟨HRN.out⟩
        have HRB : Aside0 (R ≤ 1024) := ⟨by have := HSO.out.ok.l1; have := HRN.out; omega⟩
        clear hd2 hs2 hE hQ0 HSO HCM HDW HDR HRG HSL HRN
        obtain ⟨N, hN⟩ : ∃ N, N = m + 2 := ⟨_, rfl⟩
        rw [← hN] at hw2 hcase
        have HNB : Aside0 (N ≤ 4398046510978) := ⟨by have := HWL.out; omega⟩
        clear hN hm HWL
        rcases hcase with ⟨rfl, h2, h3, h4⟩ | ⟨rfl, h2, h3⟩ | ⟨rfl, h3⟩
        · rw [if_pos rfl]
          have hNR : N ≤ R := by rw [HRN0.out]; exact h2
          have q11 : decide ((N : Int) > (R : Int)) = false := decide_eq_false (by omega)
          have q12 : decide ((R : Int) < (N : Int)) = false := decide_eq_false (by omega)
          have q13 : decide (R < N) = false := decide_eq_false (by omega)
          obtain ⟨R2, hR2⟩ : ∃ R2 : Nat, R2 = R - N := ⟨_, rfl⟩
          have hw3 : wrap64 ((R : Int) - (N : Int)) = (R2 : Int) := (Pure.wrap64_id (by have := HRB.out; omega) (by have := HRB.out; omega)).trans (by omega)
          have HRN2 : Aside0 (R2 = s2.len - 1 - s2.used) := ⟨by rw [hR2, HRN0.out]; exact h3.symm⟩
          have HQ : Aside0 (Value.int IntKind.u64 (IntKind.u64.wrap (ls.seq + 1)) = Value.int IntKind.u64 s2.seq) := ⟨by rw [h4]⟩
          have H4 := Aside0.mk h4
          clear h2 h3 h4 hNR hR2
          go_wp2_with fail
          rw [hw3]
          clear r2_ c1b_ hw2 hw3 q11 q12 q13
          have h4 := H4.out
          obtain ⟨Alz, clz, hz, -⟩ := Pure.logP_open HSb.out.swap
          have HZ := Aside0.mk hz
          clear hz HSb
          refine (log_Next.part w wb _ g p _ _ HZ.out).mono ?_
          rintro e wy ⟨rfl, hs⟩
          have HY := Aside0.mk hs
          have c1_ : wy.cell? ⟨gp, 1, none⟩ = some (.pointer (some ⟨g, 0, none⟩)) := (hs.boxed 3 rfl).cell 1 _ rfl
          clear hs HZ
          go_wp2_with fail
          refine (log_Room.part w wy _ g p _ _ HY.out HSN.out.ok.l1 HSN.out.ok.us).mono ?_
          rintro e wz ⟨rfl, hs⟩
          rw [← HRN2.out]
          have HW : Aside0 (X.Lies w wz [.disk p n (d2), Pure.logP g p (s2), .box gp #[.pointer (some ⟨p, 0, none⟩), .pointer (some ⟨g, 0, none⟩), .pointer (some ⟨g2, 0, none⟩)] 50, .box gx #[.int .i64 (n : Int), .int .i64 (st : Int), .int .i64 (ln : Int)] 24]) := ⟨(Pure.logP_close (hs.perm [0, 1, 2, 3, 4] 5 (by decide) (by decide))).swap⟩
          have k2_ : wz.cell? ⟨gx, 2, none⟩ = some (.int .i64 (ln : Int)) := (HW.out.boxed 3 rfl).cell 2 _ rfl
          have HPL : Aside0 ((s2).pl < R1) := ⟨by have := HSN.out.ok.pl; have := HR1.out; have := HSZ.out; omega⟩
          obtain ⟨pl, hpl⟩ : ∃ pl, pl = (s2).pl := ⟨_, rfl⟩
          rw [← hpl] at HPL ⊢
          have q7 : decide ((pl : Int) < 0) = false := decide_eq_false (by omega)
          have q8 : decide ((pl : Int) ≥ (R1 : Int)) = false := decide_eq_false (by have := HPL.out; omega)
          have q9 : decide ((R1 : Int) ≤ (pl : Int)) = false := decide_eq_false (by have := HPL.out; omega)
          have q10 : decide (R1 ≤ pl) = false := decide_eq_false (by have := HPL.out; omega)
          have q11 : decide ((pl : Int) ≥ wrap64 ((ln : Int) - 1)) = false := by rw [HWR.out]; exact q8
          have q12 : decide (wrap64 ((ln : Int) - 1) ≤ (pl : Int)) = false := by rw [HWR.out]; exact q9
          clear hs HY c1_ hpl
          go_wp2_with fail
          cases gk with
          | zero => exact absurd HK.out (by have := HKB.out; omega)
          | succ k1 =>
            go_roundg k1
            case measure => omega
            case rel => exact ⟨i + 1, _, _, R2, by rw [Pure.sucw i (by have := HKB.out; have := HLL.out; omega)]; rfl, rfl, by first | rfl | exact HQ.out, ⟨by have := HK.out; omega⟩, HSN, HSZ, HRN2, HW⟩
        · rw [if_neg (by decide)]
          subst h3
          have hNR : ¬ N ≤ R := by rw [HRN0.out]; omega
          have q11 : decide ((N : Int) ≤ (R : Int)) = false := decide_eq_false (by omega)
          have q13 : decide (N ≤ R) = false := decide_eq_false hNR
          have HRN2 : Aside0 (R = s2.len - 1 - s2.used) := ⟨HRN0.out⟩
          have HQ : Aside0 True := ⟨trivial⟩
          clear h2 hNR
          go_wp2_with fail
          clear r2_ c1b_ hw2 q11 q13
          obtain ⟨Alz, clz, hz, -⟩ := Pure.logP_open HSb.out.swap
          have HZ := Aside0.mk hz
          clear hz HSb
          refine (log_Next.part w wb _ g p _ _ HZ.out).mono ?_
          rintro e wy ⟨rfl, hs⟩
          have HY := Aside0.mk hs
          have c1_ : wy.cell? ⟨gp, 1, none⟩ = some (.pointer (some ⟨g, 0, none⟩)) := (hs.boxed 3 rfl).cell 1 _ rfl
          clear hs HZ
          go_wp2_with fail
          refine (log_Room.part w wy _ g p _ _ HY.out HSN.out.ok.l1 HSN.out.ok.us).mono ?_
          rintro e wz ⟨rfl, hs⟩
          rw [← HRN2.out]
          have HW : Aside0 (X.Lies w wz [.disk p n (d2), Pure.logP g p (s2), .box gp #[.pointer (some ⟨p, 0, none⟩), .pointer (some ⟨g, 0, none⟩), .pointer (some ⟨g2, 0, none⟩)] 50, .box gx #[.int .i64 (n : Int), .int .i64 (st : Int), .int .i64 (ln : Int)] 24]) := ⟨(Pure.logP_close (hs.perm [0, 1, 2, 3, 4] 5 (by decide) (by decide))).swap⟩
          have k2_ : wz.cell? ⟨gx, 2, none⟩ = some (.int .i64 (ln : Int)) := (HW.out.boxed 3 rfl).cell 2 _ rfl
          have HPL : Aside0 ((s2).pl < R1) := ⟨by have := HSN.out.ok.pl; have := HR1.out; have := HSZ.out; omega⟩
          obtain ⟨pl, hpl⟩ : ∃ pl, pl = (s2).pl := ⟨_, rfl⟩
          rw [← hpl] at HPL ⊢
          have q7 : decide ((pl : Int) < 0) = false := decide_eq_false (by omega)
          have q8 : decide ((pl : Int) ≥ (R1 : Int)) = false := decide_eq_false (by have := HPL.out; omega)
          have q9 : decide ((R1 : Int) ≤ (pl : Int)) = false := decide_eq_false (by have := HPL.out; omega)
          have q10 : decide (R1 ≤ pl) = false := decide_eq_false (by have := HPL.out; omega)
          have q11 : decide ((pl : Int) ≥ wrap64 ((ln : Int) - 1)) = false := by rw [HWR.out]; exact q8
          have q12 : decide (wrap64 ((ln : Int) - 1) ≤ (pl : Int)) = false := by rw [HWR.out]; exact q9
          clear hs HY c1_ hpl
          go_wp2_with fail
          cases gk with
          | zero => exact absurd HK.out (by have := HKB.out; omega)
          | succ k1 =>
            go_roundg k1
            case measure => omega
            case rel => exact ⟨i + 1, _, _, R, by rw [Pure.sucw i (by have := HKB.out; have := HLL.out; omega)]; rfl, rfl, by first | rfl | exact HQ.out, ⟨by have := HK.out; omega⟩, HSN, HSZ, HRN2, HW⟩
        · rw [if_neg (by decide)]
          subst h3
          have HRN2 : Aside0 (R = s2.len - 1 - s2.used) := ⟨HRN0.out⟩
          have HQ : Aside0 True := ⟨trivial⟩
          go_wp2_with fail
          clear r2_ c1b_ hw2
          obtain ⟨Alz, clz, hz, -⟩ := Pure.logP_open HSb.out.swap
          have HZ := Aside0.mk hz
          clear hz HSb
          refine (log_Next.part w wb _ g p _ _ HZ.out).mono ?_
          rintro e wy ⟨rfl, hs⟩
          have HY := Aside0.mk hs
          have c1_ : wy.cell? ⟨gp, 1, none⟩ = some (.pointer (some ⟨g, 0, none⟩)) := (hs.boxed 3 rfl).cell 1 _ rfl
          clear hs HZ
          go_wp2_with fail
          refine (log_Room.part w wy _ g p _ _ HY.out HSN.out.ok.l1 HSN.out.ok.us).mono ?_
          rintro e wz ⟨rfl, hs⟩
          rw [← HRN2.out]
          have HW : Aside0 (X.Lies w wz [.disk p n (d2), Pure.logP g p (s2), .box gp #[.pointer (some ⟨p, 0, none⟩), .pointer (some ⟨g, 0, none⟩), .pointer (some ⟨g2, 0, none⟩)] 50, .box gx #[.int .i64 (n : Int), .int .i64 (st : Int), .int .i64 (ln : Int)] 24]) := ⟨(Pure.logP_close (hs.perm [0, 1, 2, 3, 4] 5 (by decide) (by decide))).swap⟩
          have k2_ : wz.cell? ⟨gx, 2, none⟩ = some (.int .i64 (ln : Int)) := (HW.out.boxed 3 rfl).cell 2 _ rfl
          have HPL : Aside0 ((s2).pl < R1) := ⟨by have := HSN.out.ok.pl; have := HR1.out; have := HSZ.out; omega⟩
          obtain ⟨pl, hpl⟩ : ∃ pl, pl = (s2).pl := ⟨_, rfl⟩
          rw [← hpl] at HPL ⊢
          have q7 : decide ((pl : Int) < 0) = false := decide_eq_false (by omega)
          have q8 : decide ((pl : Int) ≥ (R1 : Int)) = false := decide_eq_false (by have := HPL.out; omega)
          have q9 : decide ((R1 : Int) ≤ (pl : Int)) = false := decide_eq_false (by have := HPL.out; omega)
          have q10 : decide (R1 ≤ pl) = false := decide_eq_false (by have := HPL.out; omega)
          have q11 : decide ((pl : Int) ≥ wrap64 ((ln : Int) - 1)) = false := by rw [HWR.out]; exact q8
          have q12 : decide (wrap64 ((ln : Int) - 1) ≤ (pl : Int)) = false := by rw [HWR.out]; exact q9
          clear hs HY c1_ hpl
          go_wp2_with fail
          cases gk with
          | zero => exact absurd HK.out (by have := HKB.out; omega)
          | succ k1 =>
            go_roundg k1
            case measure => omega
            case rel => exact ⟨i + 1, _, _, R, by rw [Pure.sucw i (by have := HKB.out; have := HLL.out; omega)]; rfl, rfl, by first | rfl | exact HQ.out, ⟨by have := HK.out; omega⟩, HSN, HSZ, HRN2, HW⟩
    · have q0 : decide ((i : Int) < (l.length : Int)) = false := decide_eq_false (by omega)
      have q00 : decide (i < l.length) = false := decide_eq_false hlt
      have HB := Aside0.mk HS.out.below
      clear HK hlt HS
      go_wp2_with fail
      go_ret
      exact ⟨rfl, HB.out⟩
end Go.Proofs.Ytlbfpjhnpnbikaa.U
