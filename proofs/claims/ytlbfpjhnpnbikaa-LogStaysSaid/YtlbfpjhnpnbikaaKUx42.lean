/- Ux42: what this claim uses. Laid by slim.py (ours). -/
import Derived.Test.YtlbfpjhnpnbikaaKUx9
import Derived.Test.YtlbfpjhnpnbikaaKUx0
import Derived.Test.YtlbfpjhnpnbikaaKUx18
import Derived.Test.YtlbfpjhnpnbikaaKUx30
import Derived.Test.YtlbfpjhnpnbikaaKUx31
import Derived.Test.YtlbfpjhnpnbikaaKUx37
import Derived.Test.YtlbfpjhnpnbikaaKUx38
import Derived.Test.YtlbfpjhnpnbikaaKUx41
namespace Go.Proofs.Ytlbfpjhnpnbikaa.U
open Go.RowKit Go.Proofs.YtlbfpjhnpnbikaaW.PrintWords Go.Proofs.YtlbfpjhnpnbikaaW.PrintLast Go.Proofs.YtlbfpjhnpnbikaaW.PrintMore
attribute [local go_sem] max2_int min2_int max_two min_two max_three min_three max_four min_four
set_option linter.unusedVariables false
set_option linter.unusedSimpArgs false
theorem slice_exec4 {P : Program} {w : World} {oi : Oper} {ρ : Operand → Value} {t e : TypeId} (hu : P.underlying t = some (.slice e)) (x : Operand) (lo hi : Option Operand) (ho : oi.op = .slice t x lo hi none) (v u : Value) (vl vh : Option Value) (hx : ρ x = v) (hl : lo.map ρ = vl) (hh : hi.map ρ = vh) (hb : (Instr.slice t v vl vh none).run P w = .ok u w) : (execOp ρ oi).run P w = .ok (.value u) w := by
  have h2 : (Instr.sliceAt t v vl vh none).run P w = .ok u w := by
    rw [← hb]
    simp [Instr.sliceAt, run_underlying hu, Sem.run_bind, Result.andThen]
  unfold execOp
  simp only [ho, hx, hl, hh, Option.map_none, Sem.run_bind, Sem.run_pure, Result.andThen_ok, h2]
def undercroftlaw04_LogStays.f (a b c : Int) (l : List S62) : Option Bool := if okD4 l = true then some true else none
set_option maxHeartbeats 16000000 in
set_option maxRecDepth 100000 in
theorem undercroftlaw04_LogStays.calls (a0_0 a0_1 a0_2 : Int) (A1 : Option Addr) (c1 : Nat) (l1 : List S62) (r : Bool) (w : World) (hr1 : Kd.C k62 w A1 l1.length l1) (hc1 : l1.length ≤ c1) (h : undercroftlaw04_LogStays.f a0_0 a0_1 a0_2 l1 = some r) :
    Calls Try.prog 4 #[.agg #[.int .i64 a0_0, .int .i64 a0_1, .int .i64 a0_2], .slice A1 l1.length c1] w fun e w' => e = .returned (.bool r) ∧ Below w.heap.size w w' := by
  unfold undercroftlaw04_LogStays.f at h
  by_cases hok : okD4 l1 = true
  rotate_left
  · rw [if_neg hok] at h
    cases h
  rw [if_pos hok] at h
  obtain rfl := Option.some.inj h
  have HC1 := Aside0.mk hc1
  have HCA : Aside0 (∀ (i : Nat) (x : S62) (a : Int), (l1.take 24)[i]? = some x → 0 ≤ a ∧ a < 18446744073709551616 → Pure.Came a x.f1.f1 x.f1.f2) := ⟨fun i x a hx ha => okD4_at hok hx ha⟩
  have HL : Aside0 (∀ w', Below w.heap.size w w' → Kd.C k62 w' A1 (l1.take 24).length (l1.take 24)) := ⟨fun w' hb => take24 (Kd.C_below hr1 hb)⟩
  have HLL : Aside0 ((l1.take 24).length ≤ 24 ∧ (l1.take 24).length ≤ c1) := ⟨by rw [List.length_take]; omega⟩
  have HS0 := Aside0.mk ((X.Lies.start w).alloc #[.int .i64 a0_0, .int .i64 a0_1, .int .i64 a0_2] 24)
  clear h hok hr1 hc1
  go_enter Try.func4, Try.ntmps4
  go_wp2_with fail
  refine (undercroftlaw04_alive.yes _).mono ?_
  rintro e w2 ⟨rfl, hb⟩
  have HS2 := Aside0.mk (HS0.out.grow hb)
  clear hb HS0
  obtain ⟨gx, hgx⟩ : ∃ gx, gx = w.heap.size := ⟨_, rfl⟩
  rw [← hgx] at HS2 ⊢
  clear hgx
  have HRA := Aside0.mk (Pure.blk_range (HS2.out.boxed 0 rfl))
  go_wp2_with ((with_reducible refine gate_ (.load 24 (.tmp 2)) rfl ?_); (refine wpList_load_mid rfl 24 (.tmp 2) rfl gx 0 rfl [.int .i64 a0_0, .int .i64 a0_1, .int .i64 a0_2] _ HRA.out Try.underlying24 rfl info_area ?_))
  refine (undercroftlaw04_opened.part w w2 _ a0_0 a0_1 a0_2 HS2.out).mono ?_
  rintro e w3 h
  rcases h with ⟨-, rfl, hs⟩ | ⟨n, st, ln, p, g, q, g2, rfl, rfl, rfl, hn1, hn2, hA, rfl, hs⟩
  · have HB := Aside0.mk (hs.alloc #[.pointer none, .pointer none, .pointer none] 50).below
    clear hs HS2 HRA
    go_wp2_with fail
    go_ret
    exact ⟨rfl, HB.out⟩
  have HN : Aside0 (1 ≤ n ∧ n ≤ 1024) := ⟨hn1, hn2⟩
  have HA := Aside0.mk hA
  obtain ⟨gp, hgp⟩ : ∃ gp, gp = w3.heap.size := ⟨_, rfl⟩
  have HS3 : Aside0 (X.Lies w (w3.alloc (.cells #[.pointer (some ⟨p, 0, none⟩), .pointer (some ⟨g, 0, none⟩), .pointer (some ⟨g2, 0, none⟩)] 50)) [.disk p n (Pure.newD n st ln), Pure.logP g p (Pure.newS st ln), .box gp #[.pointer (some ⟨p, 0, none⟩), .pointer (some ⟨g, 0, none⟩), .pointer (some ⟨g2, 0, none⟩)] 50, .box gx #[.int .i64 (n : Int), .int .i64 (st : Int), .int .i64 (ln : Int)] 24]) := ⟨by rw [hgp]; exact (hs.alloc _ _).perm [1, 2, 0, 5] 6 (by decide) (by decide)⟩
  have HSO := Aside0.mk (Pure.new_sound hn1 hn2 hA)
  clear hn1 hn2 hA hs HS2 HRA
  have c0_ : (w3.alloc (.cells #[.pointer (some ⟨p, 0, none⟩), .pointer (some ⟨g, 0, none⟩), .pointer (some ⟨g2, 0, none⟩)] 50)).cell? ⟨gp, 0, none⟩ = some (.pointer (some ⟨p, 0, none⟩)) := (HS3.out.boxed 2 rfl).cell 0 _ rfl
  go_wp2_with fail
  refine (disk_Image.part w _ _ p n _ HS3.out).mono ?_
  rintro e w4 ⟨v, rfl, hs⟩
  obtain ⟨D0, hD0⟩ : ∃ D0, D0 = Pure.newD n st ln := ⟨_, rfl⟩
  rw [← hD0] at hs HSO
  have HP0 : Aside0 (D0.pend = []) := ⟨by have := HSO.out.pend; exact List.length_eq_zero_iff.1 (by omega)⟩
  have HAL := Aside0.mk (Pure.image_len HSO.out.free.ok n (Nat.le_refl _))
  obtain ⟨AH, hAH⟩ : ∃ AH, AH = imageTo D0 n := ⟨_, rfl⟩
  rw [← hAH] at hs HAL
  have HAH := Aside0.mk hAH
  obtain ⟨O, hO⟩ := hs.rowed 0 rfl
  obtain ⟨ga0, ca0, e1, -⟩ := Kd.R_form hO (by rw [HAL.out]; have := HN.out; omega)
  subst e1
  rw [HAL.out] at hs ⊢
  have HS4 : Aside0 (X.Lies w w4 [.disk p n D0, Pure.logP g p (Pure.newS st ln), .box gp #[.pointer (some ⟨p, 0, none⟩), .pointer (some ⟨g, 0, none⟩), .pointer (some ⟨g2, 0, none⟩)] 50, .box gx #[.int .i64 (n : Int), .int .i64 (st : Int), .int .i64 (ln : Int)] 24, .row (Kd.int .u8) 5 (.slice (some ⟨ga0, 0, none⟩) (256 * n) ca0) AH]) := ⟨hs.perm [1, 2, 3, 4, 0] 5 (by decide) (by decide)⟩
  have HFR := Aside0.mk HSO.out.free
  clear hs hO hAH hD0 HS3 c0_
  go_wp2_with fail
  rw [← hgp]
  clear hgp
  refine (undercroftlaw04_few.part A1 c1 l1 _ HC1.out).mono ?_
  rintro e w' ⟨rfl, rfl⟩
  obtain ⟨l, hl⟩ : ∃ l, l = l1.take 24 := ⟨_, rfl⟩
  rw [← hl] at HL HLL HCA ⊢
  clear hl
  go_wp2_with fail
  go_loopg [9] l.length (fun gk v9_ w' => ∃ (i : Nat) (d : X.DS) (ls : Pure.LS), v9_ = .int .i64 (i : Int) ∧ Aside0 (gk + i = l.length) ∧ Aside0 (Pure.Sound n d ls (2 * i)) ∧ Aside0 (d.pend = []) ∧ Aside0 (∀ j, j ≤ st ∨ st + ln ≤ j → d.read j = D0.read j) ∧ Aside0 (ls.st = st ∧ ls.len = ln) ∧ Aside0 (X.Lies w w' [.disk p n d, Pure.logP g p ls, .box gp #[.pointer (some ⟨p, 0, none⟩), .pointer (some ⟨g, 0, none⟩), .pointer (some ⟨g2, 0, none⟩)] 50, .box gx #[.int .i64 (n : Int), .int .i64 (st : Int), .int .i64 (ln : Int)] 24, .row (Kd.int .u8) 5 (.slice (some ⟨ga0, 0, none⟩) (256 * n) ca0) AH]))
  case atStart => exact ⟨0, _, _, rfl, ⟨by omega⟩, HSO, HP0, ⟨fun _ _ => rfl⟩, ⟨rfl, rfl⟩, HS4⟩
  case round =>
    clear HS4 HSO
    obtain ⟨i, d, ls, rfl, HK, HSO, HPD, HRD, HSL, HS⟩ := hrel
    by_cases hlt : i < l.length
    · have q0 : decide ((i : Int) < (l.length : Int)) = true := decide_eq_true (by omega)
      have q00 : decide (i < l.length) = true := decide_eq_true hlt
      obtain ⟨x, hx⟩ : ∃ x, l[i]? = some x := ⟨_, List.getElem?_eq_getElem hlt⟩
      obtain ⟨ga, oa, Aw, cw, Ar, cr, Ab, cb, rfl, hrg, hdw, hdr, -⟩ := deed4_at (HL.out w (Below.refl _ _)) hx
      have HRG := Aside0.mk hrg
      have HDW := Aside0.mk hdw
      have HDR := Aside0.mk hdr
      have HCM := Aside0.mk (HCA.out i x ls.seq hx HSO.out.ok.sq)
      have HKB := Aside0.mk hlt
      clear hx hrg hdw hdr
      go_wp2_with fail
      refine start_ (n := 18) (S := (fun w' => X.Blk w' gp #[.pointer (some ⟨p, 0, none⟩), .pointer (some ⟨g, 0, none⟩), .pointer (some ⟨g2, 0, none⟩)] 50 ∧ w'.rangeAt ga (oa + i * 5) [.int .i64 x.f0, .int .u64 x.f1.f0, .slice Aw x.f1.f1.length cw, .slice Ar x.f1.f2.length cr, .slice Ab x.f2.length cb])) (ds := []) #[false, false, false, false, false, false, false, false, false, false, false, false, false, false, false, false, false, false] (by kernel_rfl) rfl rfl ⟨HS.out.drew.boxed 2 rfl, range_below4 HRG.out (X.Lies.below HS.out.drew)⟩ (fun hHeld => ?_)
      have HSa := Aside0.mk (HS.out.drew)
      generalize World.drew _ = wa at *
      clear HS
      refine pure_ (i := 0) (N := some 33) (v := ?_) (a' := ?_) #[true, false, false, false, false, false, false, false, false, false, false, false, false, false, false, false, false, false] rfl rfl (by kernel_rfl) (fun _ _ _ h => h) (Or.inl ⟨by rfl, ?_⟩) ?_ ?_
      rotate_left
      · intro w'
        go_simp
        with_reducible rfl
      rotate_left
      · simp only [Act.put, List.setIfInBounds_toArray, List.set_cons_zero, List.set_cons_succ, i64_w, i32_w]
        rfl
      refine take_ (i := 1) (N := some 34) (v := .pointer (some ⟨g, 0, none⟩)) (a' := ?_) #[true, true, false, false, false, false, false, false, false, false, false, false, false, false, false, false, false, false] rfl rfl (by kernel_rfl) (fun _ _ _ h => h) (Or.inl ⟨by rfl, ?_⟩) hHeld ?_ ?_
      · intro w' hs_
        obtain ⟨hs0, hs1⟩ := hs_
        exact (by have x_ : w'.cell? ⟨gp, 1, none⟩ = some (.pointer (some ⟨g, 0, none⟩)) := hs0.cell 1 _ rfl; go_simp; done)
      rotate_left
      · simp only [Act.put, List.setIfInBounds_toArray, List.set_cons_zero, List.set_cons_succ, i64_w, i32_w]
        rfl
      refine pure_ (i := 2) (N := some 35) (v := ?_) (a' := ?_) #[true, true, true, false, false, false, false, false, false, false, false, false, false, false, false, false, false, false] rfl rfl (by kernel_rfl) (fun _ _ _ h => h) (Or.inl ⟨by rfl, ?_⟩) ?_ ?_
      rotate_left
      · intro w'
        go_simp
        with_reducible rfl
      rotate_left
      · simp only [Act.put, List.setIfInBounds_toArray, List.set_cons_zero, List.set_cons_succ, i64_w, i32_w]
        rfl
      refine pure_ (i := 3) (N := some 36) (v := ?_) (a' := ?_) #[true, true, true, true, false, false, false, false, false, false, false, false, false, false, false, false, false, false] rfl rfl (by kernel_rfl) (fun _ _ _ h => h) (Or.inl ⟨by rfl, ?_⟩) ?_ ?_
      rotate_left
      · intro w'
        go_simp
        with_reducible rfl
      rotate_left
      · simp only [Act.put, List.setIfInBounds_toArray, List.set_cons_zero, List.set_cons_succ, i64_w, i32_w]
        rfl
      refine pure_ (i := 4) (N := some 37) (v := ?_) (a' := ?_) #[true, true, true, true, true, false, false, false, false, false, false, false, false, false, false, false, false, false] rfl rfl (by kernel_rfl) (fun _ _ _ h => h) (Or.inl ⟨by rfl, ?_⟩) ?_ ?_
      rotate_left
      · intro w'
        go_simp
        with_reducible rfl
      rotate_left
      · simp only [Act.put, List.setIfInBounds_toArray, List.set_cons_zero, List.set_cons_succ, i64_w, i32_w]
        rfl
      refine pure_ (i := 5) (N := some 38) (v := ?_) (a' := ?_) #[true, true, true, true, true, true, false, false, false, false, false, false, false, false, false, false, false, false] rfl rfl (by kernel_rfl) (fun _ _ _ h => h) (Or.inl ⟨by rfl, ?_⟩) ?_ ?_
      rotate_left
      · intro w'
        go_simp
        with_reducible rfl
      rotate_left
      · simp only [Act.put, List.setIfInBounds_toArray, List.set_cons_zero, List.set_cons_succ, i64_w, i32_w]
        rfl
      refine pure_ (i := 6) (N := some 39) (v := ?_) (a' := ?_) #[true, true, true, true, true, true, true, false, false, false, false, false, false, false, false, false, false, false] rfl rfl (by kernel_rfl) (fun _ _ _ h => h) (Or.inl ⟨by rfl, ?_⟩) ?_ ?_
      rotate_left
      · intro w'
        go_simp
        with_reducible rfl
      rotate_left
      · simp only [Act.put, List.setIfInBounds_toArray, List.set_cons_zero, List.set_cons_succ, i64_w, i32_w]
        rfl
      refine take_ (i := 7) (N := some 40) (v := .slice Aw x.f1.f1.length cw) (a' := ?_) #[true, true, true, true, true, true, true, true, false, false, false, false, false, false, false, false, false, false] rfl rfl (by kernel_rfl) (fun _ _ _ h => h) (Or.inl ⟨by rfl, ?_⟩) hHeld ?_ ?_
      · intro w' hs_
        obtain ⟨hs0, hs1⟩ := hs_
        exact (by have x_ : w'.cell? ⟨ga, oa + i * 5 + 2, none⟩ = some (.slice Aw x.f1.f1.length cw) := hs1 2 _ rfl; have y_ : w'.cell? ⟨ga, oa + i * 5 + 1 + 1, none⟩ = some (.slice Aw x.f1.f1.length cw) := x_; go_simp; done)
      rotate_left
      · simp only [Act.put, List.setIfInBounds_toArray, List.set_cons_zero, List.set_cons_succ, i64_w, i32_w]
        rfl
      refine pure_ (i := 8) (N := some 41) (v := ?_) (a' := ?_) #[true, true, true, true, true, true, true, true, true, false, false, false, false, false, false, false, false, false] rfl rfl (by kernel_rfl) (fun _ _ _ h => h) (Or.inl ⟨by rfl, ?_⟩) ?_ ?_
      rotate_left
      · intro w'
        go_simp
        with_reducible rfl
      rotate_left
      · simp only [Act.put, List.setIfInBounds_toArray, List.set_cons_zero, List.set_cons_succ, i64_w, i32_w]
        rfl
      refine pure_ (i := 9) (N := some 42) (v := ?_) (a' := ?_) #[true, true, true, true, true, true, true, true, true, true, false, false, false, false, false, false, false, false] rfl rfl (by kernel_rfl) (fun _ _ _ h => h) (Or.inl ⟨by rfl, ?_⟩) ?_ ?_
      rotate_left
      · intro w'
        go_simp
        with_reducible rfl
      rotate_left
      · simp only [Act.put, List.setIfInBounds_toArray, List.set_cons_zero, List.set_cons_succ, i64_w, i32_w]
        rfl
      refine pure_ (i := 10) (N := some 43) (v := ?_) (a' := ?_) #[true, true, true, true, true, true, true, true, true, true, true, false, false, false, false, false, false, false] rfl rfl (by kernel_rfl) (fun _ _ _ h => h) (Or.inl ⟨by rfl, ?_⟩) ?_ ?_
      rotate_left
      · intro w'
        go_simp
        with_reducible rfl
      rotate_left
      · simp only [Act.put, List.setIfInBounds_toArray, List.set_cons_zero, List.set_cons_succ, i64_w, i32_w]
        rfl
      refine pure_ (i := 11) (N := some 44) (v := ?_) (a' := ?_) #[true, true, true, true, true, true, true, true, true, true, true, true, false, false, false, false, false, false] rfl rfl (by kernel_rfl) (fun _ _ _ h => h) (Or.inl ⟨by rfl, ?_⟩) ?_ ?_
      rotate_left
      · intro w'
        go_simp
        with_reducible rfl
      rotate_left
      · simp only [Act.put, List.setIfInBounds_toArray, List.set_cons_zero, List.set_cons_succ, i64_w, i32_w]
        rfl
      refine pure_ (i := 12) (N := some 45) (v := ?_) (a' := ?_) #[true, true, true, true, true, true, true, true, true, true, true, true, true, false, false, false, false, false] rfl rfl (by kernel_rfl) (fun _ _ _ h => h) (Or.inl ⟨by rfl, ?_⟩) ?_ ?_
      rotate_left
      · intro w'
        go_simp
        with_reducible rfl
      rotate_left
      · simp only [Act.put, List.setIfInBounds_toArray, List.set_cons_zero, List.set_cons_succ, i64_w, i32_w]
        rfl
      refine take_ (i := 13) (N := some 46) (v := .slice Ar x.f1.f2.length cr) (a' := ?_) #[true, true, true, true, true, true, true, true, true, true, true, true, true, true, false, false, false, false] rfl rfl (by kernel_rfl) (fun _ _ _ h => h) (Or.inl ⟨by rfl, ?_⟩) hHeld ?_ ?_
      · intro w' hs_
        obtain ⟨hs0, hs1⟩ := hs_
        exact (by have x_ : w'.cell? ⟨ga, oa + i * 5 + 3, none⟩ = some (.slice Ar x.f1.f2.length cr) := hs1 3 _ rfl; have y_ : w'.cell? ⟨ga, oa + i * 5 + 1 + 2, none⟩ = some (.slice Ar x.f1.f2.length cr) := x_; go_simp; done)
      rotate_left
      · simp only [Act.put, List.setIfInBounds_toArray, List.set_cons_zero, List.set_cons_succ, i64_w, i32_w]
        rfl
      refine one_ (i := 14) (N := some 47) #[true, true, true, true, true, true, true, true, true, true, true, true, true, true, true, false, false, false] rfl rfl (by kernel_rfl) (by decide) (fun K hK => ?_)
      refine goes_ Try.func22 (by kernel_rfl) rfl #[.pointer (some ⟨g, 0, none⟩), .slice Aw x.f1.f1.length cw, .slice Ar x.f1.f2.length cr] (by rfl) rfl rfl (by (try simp only [List.map_toArray, List.map_cons, List.map_nil]); first | done | rfl) ?_
      refine (log_Append.part w wa _ g p n d ls Aw cw x.f1.f1 Ar cr x.f1.f2 HSa.out HSO.out.ok (X.Rd.arg HDW.out.2) HDW.out.1 (X.Rd.arg HDR.out.2) HDR.out.1 HCM.out (by have := HSO.out.pend; have := HKB.out; have := HLL.out; omega) (by have := HSO.out.live; have := HKB.out; have := HLL.out; omega)).mono ?_
      rintro e wb ⟨rfl, hs⟩
      have HSb := Aside0.mk hs
      refine ⟨_, rfl, ?_⟩
      clear hs HSa hHeld
      refine hK.out _ _ ⟨HSb.out.boxed 2 rfl, range_below4 HRG.out (X.Lies.below HSb.out)⟩ (fun hHeld => ?_)
      clear hK K
      refine norm_ (a' := ?_) ?_ ?_
      rotate_left
      · show Act.put _ (some 47) _ = _
        simp only [Act.put, List.setIfInBounds_toArray, List.set_cons_zero, List.set_cons_succ, i64_w, i32_w]
        rfl
      refine pure_ (i := 15) (N := some 32) (v := ?_) (a' := ?_) #[true, true, true, true, true, true, true, true, true, true, true, true, true, true, true, true, false, false] rfl rfl (by kernel_rfl) (fun _ _ _ h => h) (Or.inl ⟨by rfl, ?_⟩) ?_ ?_
      rotate_left
      · intro w'
        go_simp
        with_reducible rfl
      rotate_left
      · simp only [Act.put, List.setIfInBounds_toArray, List.set_cons_zero, List.set_cons_succ, i64_w, i32_w]
        rfl
      refine pure_ (i := 16) (N := some 48) (v := ?_) (a' := ?_) #[true, true, true, true, true, true, true, true, true, true, true, true, true, true, true, true, true, false] rfl rfl (by kernel_rfl) (fun _ _ _ h => h) (Or.inl ⟨by rfl, ?_⟩) ?_ ?_
      rotate_left
      · intro w'
        go_simp
        with_reducible rfl
      rotate_left
      · simp only [Act.put, List.setIfInBounds_toArray, List.set_cons_zero, List.set_cons_succ, i64_w, i32_w]
        rfl
      refine pure_ (i := 17) (N := some 49) (v := ?_) (a' := ?_) #[true, true, true, true, true, true, true, true, true, true, true, true, true, true, true, true, true, true] rfl rfl (by kernel_rfl) (fun _ _ _ h => h) (Or.inl ⟨by rfl, ?_⟩) ?_ ?_
      rotate_left
      · intro w'
        go_simp
        with_reducible rfl
      rotate_left
      · simp only [Act.put, List.setIfInBounds_toArray, List.set_cons_zero, List.set_cons_succ, i64_w, i32_w]
        rfl
      clear hHeld
      refine done_ (by kernel_rfl) ?_
      clear hlt
      have HS2 := Aside0.mk (HSO.out.app HCM.out)
      have HRD2 : Aside0 (∀ j, j ≤ st ∨ st + ln ≤ j → (Pure.appD n d ls x.f1.f1 x.f1.f2).flush.read j = D0.read j) := ⟨fun j hj => by
        rw [X.DS.read_flush HS2.out.free.ok, Pure.app_read HSO.out.free HSO.out.ok HCM.out (by have := HSL.out; omega), HRD.out j hj]⟩
      have HSL2 : Aside0 ((Pure.appS n ls x.f1.f1 x.f1.f2).st = st ∧ (Pure.appS n ls x.f1.f1 x.f1.f2).len = ln) := ⟨by have := Pure.appS_st n ls x.f1.f1 x.f1.f2; have := HSL.out; omega⟩
      obtain ⟨d2, hd2⟩ : ∃ d2, d2 = Pure.appD n d ls x.f1.f1 x.f1.f2 := ⟨_, rfl⟩
      obtain ⟨s2, hs2⟩ : ∃ s2, s2 = Pure.appS n ls x.f1.f1 x.f1.f2 := ⟨_, rfl⟩
      rw [← hd2, ← hs2] at HS2 HSb
      rw [← hd2] at HRD2
      rw [← hs2] at HSL2
      clear hd2 hs2 HSO HPD HRD HSL HCM HDW HDR HRG
      have c1_ : wb.cell? ⟨gp, 1, none⟩ = some (.pointer (some ⟨g, 0, none⟩)) := (HSb.out.boxed 2 rfl).cell 1 _ rfl
      obtain ⟨Alz, clz, hz, -⟩ := Pure.logP_open HSb.out.swap
      have HZ := Aside0.mk (hz.perm [2, 0, 1] 3 (by decide) (by decide))
      clear hz HSb
      go_wp2_with fail
      refine (log_Sync.part w wb _ g p n d2 s2 _ HZ.out).mono ?_
      rintro e wc ⟨rfl, hs⟩
      have HSc : Aside0 (X.Lies w wc [.disk p n d2.flush, Pure.logP g p s2, .box gp #[.pointer (some ⟨p, 0, none⟩), .pointer (some ⟨g, 0, none⟩), .pointer (some ⟨g2, 0, none⟩)] 50, .box gx #[.int .i64 (n : Int), .int .i64 (st : Int), .int .i64 (ln : Int)] 24, .row (Kd.int .u8) 5 (.slice (some ⟨ga0, 0, none⟩) (256 * n) ca0) AH]) := ⟨(Pure.logP_close (hs.perm [1, 2, 0] 3 (by decide) (by decide))).swap⟩
      have HS3 := Aside0.mk (HS2.out.flush.mono (show 2 * i + 1 + 1 ≤ 2 * (i + 1) by omega))
      have HPD3 : Aside0 (d2.flush.pend = []) := ⟨by rw [Pure.flush_free HS2.out.free.set]⟩
      clear hs HZ c1_
      go_wp2_with fail
      cases gk with
      | zero => exact absurd HK.out (by have := HKB.out; omega)
      | succ k1 =>
        go_roundg k1
        case measure => omega
        case rel => exact ⟨i + 1, _, _, by rw [Pure.sucw i (by have := HKB.out; have := HLL.out; omega)]; rfl, ⟨by have := HK.out; omega⟩, HS3, HPD3, HRD2, HSL2, HSc⟩
    · have q0 : decide ((i : Int) < (l.length : Int)) = false := decide_eq_false (by omega)
      have q00 : decide (i < l.length) = false := decide_eq_false hlt
      have c0_ : wr.cell? ⟨gp, 0, none⟩ = some (.pointer (some ⟨p, 0, none⟩)) := (HS.out.boxed 2 rfl).cell 0 _ rfl
      clear HK hlt
      go_wp2_with fail
      refine (disk_Image.part w wr _ p n _ HS.out).mono ?_
      rintro e w5 ⟨v, rfl, hs⟩
      have HNL := Aside0.mk (Pure.image_len HSO.out.free.ok n (Nat.le_refl _))
      have hb := Pure.area_in HA.out
      have HLO := Aside0.mk (Pure.image_low (m := st + 1) HSO.out.free.ok HFR.out.ok (by omega) (fun j hj => HRD.out j (.inl (by omega))))
      have HHI := Aside0.mk (Pure.image_high (m := st + ln) HSO.out.free.ok HFR.out.ok (by omega) (fun j hj => HRD.out j (.inr hj)))
      have HAB := Aside0.mk hb
      have HPN : Aside0 (d.pend.length = 0) := ⟨by rw [HPD.out]; rfl⟩
      rw [← HAH.out] at HLO HHI
      obtain ⟨NW, hNW⟩ : ∃ NW, NW = imageTo d n := ⟨_, rfl⟩
      rw [← hNW] at hs HNL HLO HHI
      obtain ⟨O, hO⟩ := hs.rowed 0 rfl
      obtain ⟨gn, cn, e1, -⟩ := Kd.R_form hO (by rw [HNL.out]; have := HN.out; omega)
      subst e1
      rw [HNL.out] at hs ⊢
      obtain ⟨TA, hTA⟩ : ∃ TA, TA = AH.take (256 * (st + 1)) := ⟨_, rfl⟩
      obtain ⟨TB, hTB⟩ : ∃ TB, TB = AH.drop (256 * (st + ln)) := ⟨_, rfl⟩
      obtain ⟨N, hN⟩ : ∃ N : Nat, N = 256 * n := ⟨_, rfl⟩
      obtain ⟨hd, hhd⟩ : ∃ hd : Nat, hd = 256 * st := ⟨_, rfl⟩
      obtain ⟨h1, hh1⟩ : ∃ h1 : Nat, h1 = 256 * (st + 1) := ⟨_, rfl⟩
      obtain ⟨m1, hm1⟩ : ∃ m1 : Nat, m1 = 256 * ln := ⟨_, rfl⟩
      obtain ⟨h2, hh2⟩ : ∃ h2 : Nat, h2 = 256 * (st + ln) := ⟨_, rfl⟩
      rw [← hh1] at HLO hTA
      rw [← hh2] at HHI hTB
      rw [← hTA] at HLO
      rw [← hTB] at HHI
      have HNB := Aside0.mk HN.out.2
      rw [← hN] at hs HNL HAL ⊢
      have HLT : Aside0 (h1 ≤ N ∧ h2 ≤ N ∧ N ≤ 262144) := ⟨by have := HNB.out; omega⟩
      have hwa : wrap64 (256 * (st : Int)) = (hd : Int) := (Pure.wrap64_id (by omega) (by have := HNB.out; omega)).trans (by omega)
      have hwb : wrap64 ((hd : Int) + 256) = (h1 : Int) := (Pure.wrap64_id (by omega) (by have := HNB.out; omega)).trans (by omega)
      have hwc : wrap64 (256 * (ln : Int)) = (m1 : Int) := (Pure.wrap64_id (by omega) (by have := HNB.out; omega)).trans (by omega)
      have hwd : wrap64 ((hd : Int) + (m1 : Int)) = (h2 : Int) := (Pure.wrap64_id (by omega) (by have := HNB.out; omega)).trans (by omega)
      have HS5 : Aside0 (X.Lies w w5 (.row (Kd.int .u8) 5 (.slice (some ⟨gn, 0, none⟩) N cn) NW :: .disk p n d :: Pure.logP g p ls :: .box gp #[.pointer (some ⟨p, 0, none⟩), .pointer (some ⟨g, 0, none⟩), .pointer (some ⟨g2, 0, none⟩)] 50 :: .box gx #[.int .i64 (n : Int), .int .i64 (st : Int), .int .i64 (ln : Int)] 24 :: .row (Kd.int .u8) 5 (.slice (some ⟨ga0, 0, none⟩) N ca0) AH :: [])) := ⟨by rw [hN]; rw [hN] at hs; exact hs⟩
      have HT1 : Aside0 (TA.length = h1 ∧ TB.length = N - h2) := ⟨by rw [hTA, hTB, List.length_take, List.length_drop, HAL.out]; have := HLT.out; omega⟩
      have HCP : Aside0 (N ≤ cn ∧ N ≤ ca0) := ⟨(HS5.out.rowC 0 rfl).2.1, (HS5.out.rowC 5 rfl).2.1⟩
      have HCA1 : Aside0 (∀ w', X.Lies w w' (.row (Kd.int .u8) 5 (.slice (some ⟨gn, 0, none⟩) N cn) NW :: .disk p n d :: Pure.logP g p ls :: .box gp #[.pointer (some ⟨p, 0, none⟩), .pointer (some ⟨g, 0, none⟩), .pointer (some ⟨g2, 0, none⟩)] 50 :: .box gx #[.int .i64 (n : Int), .int .i64 (st : Int), .int .i64 (ln : Int)] 24 :: .row (Kd.int .u8) 5 (.slice (some ⟨ga0, 0, none⟩) N ca0) AH :: []) → ((Kd.int .u8).C w' (some ⟨gn, 0, none⟩) h1 TA ∧ (Kd.int .u8).C w' (some ⟨ga0, 0, none⟩) h1 TA) ∧ (Kd.int .u8).C w' (if cn = h2 then some ⟨gn, 0, none⟩ else (some (⟨gn, 0, none⟩ : Addr)).map (·.add (h2 * 1))) (N - h2) TB ∧ (Kd.int .u8).C w' (if ca0 = h2 then some ⟨ga0, 0, none⟩ else (some (⟨ga0, 0, none⟩ : Addr)).map (·.add (h2 * 1))) (N - h2) TB) := ⟨fun w' hL => by
        have k1 := (hL.rowC 0 rfl).1
        have k2 := (hL.rowC 5 rfl).1
        rw [← HNL.out] at k1
        rw [← HAL.out] at k2
        have l1 := Kd.C_take (m := h1) k1 (by rw [HNL.out]; exact HLT.out.1)
        have l2 := Kd.C_take (m := h1) k2 (by rw [HAL.out]; exact HLT.out.1)
        have l3 := Kd.C_drop (m := h2) (c := cn) k1 (by rw [HNL.out]; exact HLT.out.2.1) (by rw [HNL.out]; exact HCP.out.1)
        have l4 := Kd.C_drop (m := h2) (c := ca0) k2 (by rw [HAL.out]; exact HLT.out.2.1) (by rw [HAL.out]; exact HCP.out.2)
        rw [HLO.out, HT1.out.1] at l1
        rw [← hTA, HT1.out.1] at l2
        rw [HHI.out, HT1.out.2] at l3
        rw [← hTB, HT1.out.2] at l4
        exact ⟨⟨l1, l2⟩, l3, l4⟩⟩
      obtain ⟨i0, hi0, -, hsz, -⟩ := info_parts info5
      have HX1 := Aside0.mk (cut_to (P := Try.prog) 22 5 .i64 Try.underlying22 hi0 (some ⟨gn, 0, none⟩) N cn (h1 : Int) (by omega) (by have := HLT.out; omega) HCP.out.1)
      have HX2 := Aside0.mk (cut_to (P := Try.prog) 22 5 .i64 Try.underlying22 hi0 (some ⟨ga0, 0, none⟩) N ca0 (h1 : Int) (by omega) (by have := HLT.out; omega) HCP.out.2)
      have HX3 := Aside0.mk (cut_from (P := Try.prog) 22 5 .i64 Try.underlying22 hi0 1 hsz (some ⟨gn, 0, none⟩) N cn (h2 : Int) (by omega) (by have := HLT.out; omega))
      have HX4 := Aside0.mk (cut_from (P := Try.prog) 22 5 .i64 Try.underlying22 hi0 1 hsz (some ⟨ga0, 0, none⟩) N ca0 (h2 : Int) (by omega) (by have := HLT.out; omega))
      have k1_ : w5.cell? ⟨gx, 1, none⟩ = some (.int .i64 (st : Int)) := (HS5.out.boxed 4 rfl).cell 1 _ rfl
      simp only [Int.toNat_natCast] at HX1 HX2 HX3 HX4
      generalize hAn : (if cn = h2 then some (⟨gn, 0, none⟩ : Addr) else (some (⟨gn, 0, none⟩ : Addr)).map (·.add (h2 * 1))) = An at HCA1 HX3
      generalize hAa : (if ca0 = h2 then some (⟨ga0, 0, none⟩ : Addr) else (some (⟨ga0, 0, none⟩ : Addr)).map (·.add (h2 * 1))) = Aa at HCA1 HX4
      clear hs hO hb hTA hTB hhd hh1 hm1 hh2 hNW HS c0_ hi0 hsz hAn hAa hN
      go_wp2_with fail
      rw [hwa]
      clear k1_ hwa
      refine start_ (n := 49) (S := (fun w' => X.Blk w' gp #[.pointer (some ⟨p, 0, none⟩), .pointer (some ⟨g, 0, none⟩), .pointer (some ⟨g2, 0, none⟩)] 50 ∧ X.Blk w' gx #[.int .i64 (n : Int), .int .i64 (st : Int), .int .i64 (ln : Int)] 24 ∧ (Kd.int .u8).C w' (some ⟨gn, 0, none⟩) h1 TA ∧ (Kd.int .u8).C w' (some ⟨ga0, 0, none⟩) h1 TA ∧ (Kd.int .u8).C w' An (N - h2) TB ∧ (Kd.int .u8).C w' Aa (N - h2) TB)) (ds := []) #[false, false, false, false, false, false, false, false, false, false, false, false, false, false, false, false, false, false, false, false, false, false, false, false, false, false, false, false, false, false, false, false, false, false, false, false, false, false, false, false, false, false, false, false, false, false, false, false, false] (by kernel_rfl) rfl rfl ⟨HS5.out.drew.boxed 3 rfl, HS5.out.drew.boxed 4 rfl, (HCA1.out _ (HS5.out.drew)).1.1, (HCA1.out _ (HS5.out.drew)).1.2, (HCA1.out _ (HS5.out.drew)).2.1, (HCA1.out _ (HS5.out.drew)).2.2⟩ (fun hHeld => ?_)
      have HSa := Aside0.mk (HS5.out.drew)
      generalize World.drew _ = wa at *
      clear HS5
      refine pure_ (i := 0) (N := some 59) (v := ?_) (a' := ?_) #[true, false, false, false, false, false, false, false, false, false, false, false, false, false, false, false, false, false, false, false, false, false, false, false, false, false, false, false, false, false, false, false, false, false, false, false, false, false, false, false, false, false, false, false, false, false, false, false, false] rfl rfl (by kernel_rfl) (fun _ _ _ h => h) (Or.inl ⟨by rfl, ?_⟩) ?_ ?_
      rotate_left
      · intro w'
        go_simp
        with_reducible rfl
      rotate_left
      · simp only [Act.put, List.setIfInBounds_toArray, List.set_cons_zero, List.set_cons_succ, i64_w, i32_w]
        rfl
      refine pure_ (i := 1) (N := some 60) (v := ?_) (a' := ?_) #[true, true, false, false, false, false, false, false, false, false, false, false, false, false, false, false, false, false, false, false, false, false, false, false, false, false, false, false, false, false, false, false, false, false, false, false, false, false, false, false, false, false, false, false, false, false, false, false, false] rfl rfl (by kernel_rfl) (fun _ _ _ h => h) (Or.inl ⟨by rfl, ?_⟩) ?_ ?_
      rotate_left
      · intro w'
        go_simp
        with_reducible rfl
      rotate_left
      · simp only [Act.put, List.setIfInBounds_toArray, List.set_cons_zero, List.set_cons_succ, i64_w, i32_w]
        rfl
      refine pure_ (i := 2) (N := some 61) (v := ?_) (a' := ?_) #[true, true, true, false, false, false, false, false, false, false, false, false, false, false, false, false, false, false, false, false, false, false, false, false, false, false, false, false, false, false, false, false, false, false, false, false, false, false, false, false, false, false, false, false, false, false, false, false, false] rfl rfl (by kernel_rfl) (fun _ _ _ h => h) (Or.inl ⟨by rfl, ?_⟩) ?_ ?_
      rotate_left
      · intro w'
        go_simp
        with_reducible rfl
      rotate_left
      · simp only [Act.put, List.setIfInBounds_toArray, List.set_cons_zero, List.set_cons_succ, i64_w, i32_w]
        rfl
      refine pure_ (i := 3) (N := some 62) (v := ?_) (a' := ?_) #[true, true, true, true, false, false, false, false, false, false, false, false, false, false, false, false, false, false, false, false, false, false, false, false, false, false, false, false, false, false, false, false, false, false, false, false, false, false, false, false, false, false, false, false, false, false, false, false, false] rfl rfl (by kernel_rfl) (fun _ _ _ h => h) (Or.inl ⟨by rfl, ?_⟩) ?_ ?_
      rotate_left
      · intro w'
        go_simp
        with_reducible rfl
      rotate_left
      · simp only [Act.put, List.setIfInBounds_toArray, List.set_cons_zero, List.set_cons_succ, i64_w, i32_w]
        rfl
      refine pure_ (i := 4) (N := some 63) (v := .bool true) (a' := ?_) #[true, true, true, true, true, false, false, false, false, false, false, false, false, false, false, false, false, false, false, false, false, false, false, false, false, false, false, false, false, false, false, false, false, false, false, false, false, false, false, false, false, false, false, false, false, false, false, false, false] rfl rfl (by kernel_rfl) (fun _ _ _ h => h) (Or.inl ⟨by rfl, ?_⟩) ?_ ?_
      · intro w'
        exact (by go_simp; first | done | (rw [i64_w]; assumption))
      rotate_left
      · simp only [Act.put, List.setIfInBounds_toArray, List.set_cons_zero, List.set_cons_succ, i64_w, i32_w]
        rfl
      refine pure_ (i := 5) (N := some 64) (v := .bool true) (a' := ?_) #[true, true, true, true, true, true, false, false, false, false, false, false, false, false, false, false, false, false, false, false, false, false, false, false, false, false, false, false, false, false, false, false, false, false, false, false, false, false, false, false, false, false, false, false, false, false, false, false, false] rfl rfl (by kernel_rfl) (fun _ _ _ h => h) (Or.inl ⟨by rfl, ?_⟩) ?_ ?_
      · intro w'
        exact (by go_simp; first | done | (rw [i64_w]; assumption))
      rotate_left
      · simp only [Act.put, List.setIfInBounds_toArray, List.set_cons_zero, List.set_cons_succ, i64_w, i32_w]
        rfl
      refine pure_ (i := 6) (N := some 65) (v := ?_) (a' := ?_) #[true, true, true, true, true, true, true, false, false, false, false, false, false, false, false, false, false, false, false, false, false, false, false, false, false, false, false, false, false, false, false, false, false, false, false, false, false, false, false, false, false, false, false, false, false, false, false, false, false] rfl rfl (by kernel_rfl) (fun _ _ _ h => h) (Or.inl ⟨by rfl, ?_⟩) ?_ ?_
      rotate_left
      · intro w'
        go_simp
        with_reducible rfl
      rotate_left
      · simp only [Act.put, List.setIfInBounds_toArray, List.set_cons_zero, List.set_cons_succ, i64_w, i32_w]
        rfl
      refine pure_ (i := 7) (N := some 66) (v := ?_) (a' := ?_) #[true, true, true, true, true, true, true, true, false, false, false, false, false, false, false, false, false, false, false, false, false, false, false, false, false, false, false, false, false, false, false, false, false, false, false, false, false, false, false, false, false, false, false, false, false, false, false, false, false] rfl rfl (by kernel_rfl) (fun _ _ _ h => h) (Or.inl ⟨by rfl, ?_⟩) ?_ ?_
      rotate_left
      · intro w'
        go_simp
        with_reducible rfl
      rotate_left
      · simp only [Act.put, List.setIfInBounds_toArray, List.set_cons_zero, List.set_cons_succ, i64_w, i32_w]
        rfl
      refine pure_ (i := 8) (N := some 67) (v := .int .i64 (h1 : Int)) (a' := ?_) #[true, true, true, true, true, true, true, true, true, false, false, false, false, false, false, false, false, false, false, false, false, false, false, false, false, false, false, false, false, false, false, false, false, false, false, false, false, false, false, false, false, false, false, false, false, false, false, false, false] rfl rfl (by kernel_rfl) (fun _ _ _ h => h) (Or.inl ⟨by rfl, ?_⟩) ?_ ?_
      · intro w'
        exact (by go_simp; first | done | (rw [i64_w]; assumption))
      rotate_left
      · simp only [Act.put, List.setIfInBounds_toArray, List.set_cons_zero, List.set_cons_succ, i64_w, i32_w]
        rfl
      refine pure_ (i := 9) (N := some 68) (v := .slice (some ⟨gn, 0, none⟩) h1 cn) (a' := ?_) #[true, true, true, true, true, true, true, true, true, true, false, false, false, false, false, false, false, false, false, false, false, false, false, false, false, false, false, false, false, false, false, false, false, false, false, false, false, false, false, false, false, false, false, false, false, false, false, false, false] rfl rfl (by kernel_rfl) (fun _ _ _ h => h) (Or.inl ⟨by rfl, ?_⟩) ?_ ?_
      · intro w'
        exact slice_exec4 Try.underlying22 (.tmp 65) none (some (.tmp 67)) (by rfl) _ _ _ _ (by rfl) (by rfl) (by rfl) (HX1.out w')
      rotate_left
      · simp only [Act.put, List.setIfInBounds_toArray, List.set_cons_zero, List.set_cons_succ, i64_w, i32_w]
        rfl
      refine take_ (i := 10) (N := some 69) (v := .string (strOfNums TA)) (a' := ?_) #[true, true, true, true, true, true, true, true, true, true, true, false, false, false, false, false, false, false, false, false, false, false, false, false, false, false, false, false, false, false, false, false, false, false, false, false, false, false, false, false, false, false, false, false, false, false, false, false, false] rfl rfl (by kernel_rfl) (fun _ _ _ h => h) (Or.inl ⟨by rfl, ?_⟩) hHeld ?_ ?_
      · intro w' hs_
        obtain ⟨hs0, hs1, hs2, hs3, hs4, hs5⟩ := hs_
        exact conv_exec4 (.tmp 68) (by rfl) _ _ (by rfl) (Pure.str_C' hs2)
      rotate_left
      · simp only [Act.put, List.setIfInBounds_toArray, List.set_cons_zero, List.set_cons_succ, i64_w, i32_w]
        rfl
      refine pure_ (i := 11) (N := some 70) (v := ?_) (a' := ?_) #[true, true, true, true, true, true, true, true, true, true, true, true, false, false, false, false, false, false, false, false, false, false, false, false, false, false, false, false, false, false, false, false, false, false, false, false, false, false, false, false, false, false, false, false, false, false, false, false, false] rfl rfl (by kernel_rfl) (fun _ _ _ h => h) (Or.inl ⟨by rfl, ?_⟩) ?_ ?_
      rotate_left
      · intro w'
        go_simp
        with_reducible rfl
      rotate_left
      · simp only [Act.put, List.setIfInBounds_toArray, List.set_cons_zero, List.set_cons_succ, i64_w, i32_w]
        rfl
      refine pure_ (i := 12) (N := some 71) (v := ?_) (a' := ?_) #[true, true, true, true, true, true, true, true, true, true, true, true, true, false, false, false, false, false, false, false, false, false, false, false, false, false, false, false, false, false, false, false, false, false, false, false, false, false, false, false, false, false, false, false, false, false, false, false, false] rfl rfl (by kernel_rfl) (fun _ _ _ h => h) (Or.inl ⟨by rfl, ?_⟩) ?_ ?_
      rotate_left
      · intro w'
        go_simp
        with_reducible rfl
      rotate_left
      · simp only [Act.put, List.setIfInBounds_toArray, List.set_cons_zero, List.set_cons_succ, i64_w, i32_w]
        rfl
      refine pure_ (i := 13) (N := some 72) (v := .int .i64 (h1 : Int)) (a' := ?_) #[true, true, true, true, true, true, true, true, true, true, true, true, true, true, false, false, false, false, false, false, false, false, false, false, false, false, false, false, false, false, false, false, false, false, false, false, false, false, false, false, false, false, false, false, false, false, false, false, false] rfl rfl (by kernel_rfl) (fun _ _ _ h => h) (Or.inl ⟨by rfl, ?_⟩) ?_ ?_
      · intro w'
        exact (by go_simp; first | done | (rw [i64_w]; assumption))
      rotate_left
      · simp only [Act.put, List.setIfInBounds_toArray, List.set_cons_zero, List.set_cons_succ, i64_w, i32_w]
        rfl
      refine pure_ (i := 14) (N := some 73) (v := .slice (some ⟨ga0, 0, none⟩) h1 ca0) (a' := ?_) #[true, true, true, true, true, true, true, true, true, true, true, true, true, true, true, false, false, false, false, false, false, false, false, false, false, false, false, false, false, false, false, false, false, false, false, false, false, false, false, false, false, false, false, false, false, false, false, false, false] rfl rfl (by kernel_rfl) (fun _ _ _ h => h) (Or.inl ⟨by rfl, ?_⟩) ?_ ?_
      · intro w'
        exact slice_exec4 Try.underlying22 (.tmp 70) none (some (.tmp 72)) (by rfl) _ _ _ _ (by rfl) (by rfl) (by rfl) (HX2.out w')
      rotate_left
      · simp only [Act.put, List.setIfInBounds_toArray, List.set_cons_zero, List.set_cons_succ, i64_w, i32_w]
        rfl
      refine take_ (i := 15) (N := some 74) (v := .string (strOfNums TA)) (a' := ?_) #[true, true, true, true, true, true, true, true, true, true, true, true, true, true, true, true, false, false, false, false, false, false, false, false, false, false, false, false, false, false, false, false, false, false, false, false, false, false, false, false, false, false, false, false, false, false, false, false, false] rfl rfl (by kernel_rfl) (fun _ _ _ h => h) (Or.inl ⟨by rfl, ?_⟩) hHeld ?_ ?_
      · intro w' hs_
        obtain ⟨hs0, hs1, hs2, hs3, hs4, hs5⟩ := hs_
        exact conv_exec4 (.tmp 73) (by rfl) _ _ (by rfl) (Pure.str_C' hs3)
      rotate_left
      · simp only [Act.put, List.setIfInBounds_toArray, List.set_cons_zero, List.set_cons_succ, i64_w, i32_w]
        rfl
      refine pure_ (i := 16) (N := some 75) (v := .bool true) (a' := ?_) #[true, true, true, true, true, true, true, true, true, true, true, true, true, true, true, true, true, false, false, false, false, false, false, false, false, false, false, false, false, false, false, false, false, false, false, false, false, false, false, false, false, false, false, false, false, false, false, false, false] rfl rfl (by kernel_rfl) (fun _ _ _ h => h) (Or.inl ⟨by rfl, ?_⟩) ?_ ?_
      · intro w'
        exact (by go_simp; first | done | (rw [i64_w]; assumption))
      rotate_left
      · simp only [Act.put, List.setIfInBounds_toArray, List.set_cons_zero, List.set_cons_succ, i64_w, i32_w]
        rfl
      refine pure_ (i := 17) (N := some 76) (v := .bool true) (a' := ?_) #[true, true, true, true, true, true, true, true, true, true, true, true, true, true, true, true, true, true, false, false, false, false, false, false, false, false, false, false, false, false, false, false, false, false, false, false, false, false, false, false, false, false, false, false, false, false, false, false, false] rfl rfl (by kernel_rfl) (fun _ _ _ h => h) (Or.inl ⟨by rfl, ?_⟩) ?_ ?_
      · intro w'
        exact (by go_simp; first | done | (rw [i64_w]; assumption))
      rotate_left
      · simp only [Act.put, List.setIfInBounds_toArray, List.set_cons_zero, List.set_cons_succ, i64_w, i32_w]
        rfl
      refine pure_ (i := 18) (N := some 77) (v := .bool true) (a' := ?_) #[true, true, true, true, true, true, true, true, true, true, true, true, true, true, true, true, true, true, true, false, false, false, false, false, false, false, false, false, false, false, false, false, false, false, false, false, false, false, false, false, false, false, false, false, false, false, false, false, false] rfl rfl (by kernel_rfl) (fun _ _ _ h => h) (Or.inl ⟨by rfl, ?_⟩) ?_ ?_
      · intro w'
        exact (by go_simp; first | done | (rw [i64_w]; assumption))
      rotate_left
      · simp only [Act.put, List.setIfInBounds_toArray, List.set_cons_zero, List.set_cons_succ, i64_w, i32_w]
        rfl
      refine pure_ (i := 19) (N := some 78) (v := ?_) (a' := ?_) #[true, true, true, true, true, true, true, true, true, true, true, true, true, true, true, true, true, true, true, true, false, false, false, false, false, false, false, false, false, false, false, false, false, false, false, false, false, false, false, false, false, false, false, false, false, false, false, false, false] rfl rfl (by kernel_rfl) (fun _ _ _ h => h) (Or.inl ⟨by rfl, ?_⟩) ?_ ?_
      rotate_left
      · intro w'
        go_simp
        with_reducible rfl
      rotate_left
      · simp only [Act.put, List.setIfInBounds_toArray, List.set_cons_zero, List.set_cons_succ, i64_w, i32_w]
        rfl
      refine pure_ (i := 20) (N := some 79) (v := ?_) (a' := ?_) #[true, true, true, true, true, true, true, true, true, true, true, true, true, true, true, true, true, true, true, true, true, false, false, false, false, false, false, false, false, false, false, false, false, false, false, false, false, false, false, false, false, false, false, false, false, false, false, false, false] rfl rfl (by kernel_rfl) (fun _ _ _ h => h) (Or.inl ⟨by rfl, ?_⟩) ?_ ?_
      rotate_left
      · intro w'
        go_simp
        with_reducible rfl
      rotate_left
      · simp only [Act.put, List.setIfInBounds_toArray, List.set_cons_zero, List.set_cons_succ, i64_w, i32_w]
        rfl
      refine pure_ (i := 21) (N := some 80) (v := ?_) (a' := ?_) #[true, true, true, true, true, true, true, true, true, true, true, true, true, true, true, true, true, true, true, true, true, true, false, false, false, false, false, false, false, false, false, false, false, false, false, false, false, false, false, false, false, false, false, false, false, false, false, false, false] rfl rfl (by kernel_rfl) (fun _ _ _ h => h) (Or.inl ⟨by rfl, ?_⟩) ?_ ?_
      rotate_left
      · intro w'
        go_simp
        with_reducible rfl
      rotate_left
      · simp only [Act.put, List.setIfInBounds_toArray, List.set_cons_zero, List.set_cons_succ, i64_w, i32_w]
        rfl
      refine take_ (i := 22) (N := some 81) (v := .int .i64 (ln : Int)) (a' := ?_) #[true, true, true, true, true, true, true, true, true, true, true, true, true, true, true, true, true, true, true, true, true, true, true, false, false, false, false, false, false, false, false, false, false, false, false, false, false, false, false, false, false, false, false, false, false, false, false, false, false] rfl rfl (by kernel_rfl) (fun _ _ _ h => h) (Or.inl ⟨by rfl, ?_⟩) hHeld ?_ ?_
      · intro w' hs_
        obtain ⟨hs0, hs1, hs2, hs3, hs4, hs5⟩ := hs_
        exact (by have x_ : w'.cell? ⟨gx, 2, none⟩ = some (.int .i64 (ln : Int)) := hs1.cell 2 _ rfl; go_simp; done)
      rotate_left
      · simp only [Act.put, List.setIfInBounds_toArray, List.set_cons_zero, List.set_cons_succ, i64_w, i32_w]
        rfl
      refine pure_ (i := 23) (N := some 82) (v := .int .i64 (m1 : Int)) (a' := ?_) #[true, true, true, true, true, true, true, true, true, true, true, true, true, true, true, true, true, true, true, true, true, true, true, true, false, false, false, false, false, false, false, false, false, false, false, false, false, false, false, false, false, false, false, false, false, false, false, false, false] rfl rfl (by kernel_rfl) (fun _ _ _ h => h) (Or.inl ⟨by rfl, ?_⟩) ?_ ?_
      · intro w'
        exact (by go_simp; first | done | (rw [i64_w]; assumption))
      rotate_left
      · simp only [Act.put, List.setIfInBounds_toArray, List.set_cons_zero, List.set_cons_succ, i64_w, i32_w]
        rfl
      refine pure_ (i := 24) (N := some 83) (v := .int .i64 (h2 : Int)) (a' := ?_) #[true, true, true, true, true, true, true, true, true, true, true, true, true, true, true, true, true, true, true, true, true, true, true, true, true, false, false, false, false, false, false, false, false, false, false, false, false, false, false, false, false, false, false, false, false, false, false, false, false] rfl rfl (by kernel_rfl) (fun _ _ _ h => h) (Or.inl ⟨by rfl, ?_⟩) ?_ ?_
      · intro w'
        exact (by go_simp; first | done | (rw [i64_w]; assumption))
      rotate_left
      · simp only [Act.put, List.setIfInBounds_toArray, List.set_cons_zero, List.set_cons_succ, i64_w, i32_w]
        rfl
      refine pure_ (i := 25) (N := some 84) (v := .slice An (N - h2) (cn - h2)) (a' := ?_) #[true, true, true, true, true, true, true, true, true, true, true, true, true, true, true, true, true, true, true, true, true, true, true, true, true, true, false, false, false, false, false, false, false, false, false, false, false, false, false, false, false, false, false, false, false, false, false, false, false] rfl rfl (by kernel_rfl) (fun _ _ _ h => h) (Or.inl ⟨by rfl, ?_⟩) ?_ ?_
      · intro w'
        exact slice_exec4 Try.underlying22 (.tmp 78) (some (.tmp 83)) none (by rfl) _ _ _ _ (by rfl) (by rfl) (by rfl) (HX3.out w')
      rotate_left
      · simp only [Act.put, List.setIfInBounds_toArray, List.set_cons_zero, List.set_cons_succ, i64_w, i32_w]
        rfl
      refine take_ (i := 26) (N := some 85) (v := .string (strOfNums TB)) (a' := ?_) #[true, true, true, true, true, true, true, true, true, true, true, true, true, true, true, true, true, true, true, true, true, true, true, true, true, true, true, false, false, false, false, false, false, false, false, false, false, false, false, false, false, false, false, false, false, false, false, false, false] rfl rfl (by kernel_rfl) (fun _ _ _ h => h) (Or.inl ⟨by rfl, ?_⟩) hHeld ?_ ?_
      · intro w' hs_
        obtain ⟨hs0, hs1, hs2, hs3, hs4, hs5⟩ := hs_
        exact conv_exec4 (.tmp 84) (by rfl) _ _ (by rfl) (Pure.str_C' hs4)
      rotate_left
      · simp only [Act.put, List.setIfInBounds_toArray, List.set_cons_zero, List.set_cons_succ, i64_w, i32_w]
        rfl
      refine pure_ (i := 27) (N := some 86) (v := ?_) (a' := ?_) #[true, true, true, true, true, true, true, true, true, true, true, true, true, true, true, true, true, true, true, true, true, true, true, true, true, true, true, true, false, false, false, false, false, false, false, false, false, false, false, false, false, false, false, false, false, false, false, false, false] rfl rfl (by kernel_rfl) (fun _ _ _ h => h) (Or.inl ⟨by rfl, ?_⟩) ?_ ?_
      rotate_left
      · intro w'
        go_simp
        with_reducible rfl
      rotate_left
      · simp only [Act.put, List.setIfInBounds_toArray, List.set_cons_zero, List.set_cons_succ, i64_w, i32_w]
        rfl
      refine pure_ (i := 28) (N := some 87) (v := ?_) (a' := ?_) #[true, true, true, true, true, true, true, true, true, true, true, true, true, true, true, true, true, true, true, true, true, true, true, true, true, true, true, true, true, false, false, false, false, false, false, false, false, false, false, false, false, false, false, false, false, false, false, false, false] rfl rfl (by kernel_rfl) (fun _ _ _ h => h) (Or.inl ⟨by rfl, ?_⟩) ?_ ?_
      rotate_left
      · intro w'
        go_simp
        with_reducible rfl
      rotate_left
      · simp only [Act.put, List.setIfInBounds_toArray, List.set_cons_zero, List.set_cons_succ, i64_w, i32_w]
        rfl
      refine pure_ (i := 29) (N := some 88) (v := ?_) (a' := ?_) #[true, true, true, true, true, true, true, true, true, true, true, true, true, true, true, true, true, true, true, true, true, true, true, true, true, true, true, true, true, true, false, false, false, false, false, false, false, false, false, false, false, false, false, false, false, false, false, false, false] rfl rfl (by kernel_rfl) (fun _ _ _ h => h) (Or.inl ⟨by rfl, ?_⟩) ?_ ?_
      rotate_left
      · intro w'
        go_simp
        with_reducible rfl
      rotate_left
      · simp only [Act.put, List.setIfInBounds_toArray, List.set_cons_zero, List.set_cons_succ, i64_w, i32_w]
        rfl
      refine take_ (i := 30) (N := some 89) (v := .int .i64 (ln : Int)) (a' := ?_) #[true, true, true, true, true, true, true, true, true, true, true, true, true, true, true, true, true, true, true, true, true, true, true, true, true, true, true, true, true, true, true, false, false, false, false, false, false, false, false, false, false, false, false, false, false, false, false, false, false] rfl rfl (by kernel_rfl) (fun _ _ _ h => h) (Or.inl ⟨by rfl, ?_⟩) hHeld ?_ ?_
      · intro w' hs_
        obtain ⟨hs0, hs1, hs2, hs3, hs4, hs5⟩ := hs_
        exact (by have x_ : w'.cell? ⟨gx, 2, none⟩ = some (.int .i64 (ln : Int)) := hs1.cell 2 _ rfl; go_simp; done)
      rotate_left
      · simp only [Act.put, List.setIfInBounds_toArray, List.set_cons_zero, List.set_cons_succ, i64_w, i32_w]
        rfl
      refine pure_ (i := 31) (N := some 90) (v := .int .i64 (m1 : Int)) (a' := ?_) #[true, true, true, true, true, true, true, true, true, true, true, true, true, true, true, true, true, true, true, true, true, true, true, true, true, true, true, true, true, true, true, true, false, false, false, false, false, false, false, false, false, false, false, false, false, false, false, false, false] rfl rfl (by kernel_rfl) (fun _ _ _ h => h) (Or.inl ⟨by rfl, ?_⟩) ?_ ?_
      · intro w'
        exact (by go_simp; first | done | (rw [i64_w]; assumption))
      rotate_left
      · simp only [Act.put, List.setIfInBounds_toArray, List.set_cons_zero, List.set_cons_succ, i64_w, i32_w]
        rfl
      refine pure_ (i := 32) (N := some 91) (v := .int .i64 (h2 : Int)) (a' := ?_) #[true, true, true, true, true, true, true, true, true, true, true, true, true, true, true, true, true, true, true, true, true, true, true, true, true, true, true, true, true, true, true, true, true, false, false, false, false, false, false, false, false, false, false, false, false, false, false, false, false] rfl rfl (by kernel_rfl) (fun _ _ _ h => h) (Or.inl ⟨by rfl, ?_⟩) ?_ ?_
      · intro w'
        exact (by go_simp; first | done | (rw [i64_w]; assumption))
      rotate_left
      · simp only [Act.put, List.setIfInBounds_toArray, List.set_cons_zero, List.set_cons_succ, i64_w, i32_w]
        rfl
      refine pure_ (i := 33) (N := some 92) (v := .slice Aa (N - h2) (ca0 - h2)) (a' := ?_) #[true, true, true, true, true, true, true, true, true, true, true, true, true, true, true, true, true, true, true, true, true, true, true, true, true, true, true, true, true, true, true, true, true, true, false, false, false, false, false, false, false, false, false, false, false, false, false, false, false] rfl rfl (by kernel_rfl) (fun _ _ _ h => h) (Or.inl ⟨by rfl, ?_⟩) ?_ ?_
      · intro w'
        exact slice_exec4 Try.underlying22 (.tmp 86) (some (.tmp 91)) none (by rfl) _ _ _ _ (by rfl) (by rfl) (by rfl) (HX4.out w')
      rotate_left
      · simp only [Act.put, List.setIfInBounds_toArray, List.set_cons_zero, List.set_cons_succ, i64_w, i32_w]
        rfl
      refine take_ (i := 34) (N := some 93) (v := .string (strOfNums TB)) (a' := ?_) #[true, true, true, true, true, true, true, true, true, true, true, true, true, true, true, true, true, true, true, true, true, true, true, true, true, true, true, true, true, true, true, true, true, true, true, false, false, false, false, false, false, false, false, false, false, false, false, false, false] rfl rfl (by kernel_rfl) (fun _ _ _ h => h) (Or.inl ⟨by rfl, ?_⟩) hHeld ?_ ?_
      · intro w' hs_
        obtain ⟨hs0, hs1, hs2, hs3, hs4, hs5⟩ := hs_
        exact conv_exec4 (.tmp 92) (by rfl) _ _ (by rfl) (Pure.str_C' hs5)
      rotate_left
      · simp only [Act.put, List.setIfInBounds_toArray, List.set_cons_zero, List.set_cons_succ, i64_w, i32_w]
        rfl
      refine pure_ (i := 35) (N := some 94) (v := .bool true) (a' := ?_) #[true, true, true, true, true, true, true, true, true, true, true, true, true, true, true, true, true, true, true, true, true, true, true, true, true, true, true, true, true, true, true, true, true, true, true, true, false, false, false, false, false, false, false, false, false, false, false, false, false] rfl rfl (by kernel_rfl) (fun _ _ _ h => h) (Or.inl ⟨by rfl, ?_⟩) ?_ ?_
      · intro w'
        exact (by go_simp; first | done | (rw [i64_w]; assumption))
      rotate_left
      · simp only [Act.put, List.setIfInBounds_toArray, List.set_cons_zero, List.set_cons_succ, i64_w, i32_w]
        rfl
      refine pure_ (i := 36) (N := some 95) (v := .bool true) (a' := ?_) #[true, true, true, true, true, true, true, true, true, true, true, true, true, true, true, true, true, true, true, true, true, true, true, true, true, true, true, true, true, true, true, true, true, true, true, true, true, false, false, false, false, false, false, false, false, false, false, false, false] rfl rfl (by kernel_rfl) (fun _ _ _ h => h) (Or.inl ⟨by rfl, ?_⟩) ?_ ?_
      · intro w'
        exact (by go_simp; first | done | (rw [i64_w]; assumption))
      rotate_left
      · simp only [Act.put, List.setIfInBounds_toArray, List.set_cons_zero, List.set_cons_succ, i64_w, i32_w]
        rfl
      refine pure_ (i := 37) (N := some 96) (v := .bool true) (a' := ?_) #[true, true, true, true, true, true, true, true, true, true, true, true, true, true, true, true, true, true, true, true, true, true, true, true, true, true, true, true, true, true, true, true, true, true, true, true, true, true, false, false, false, false, false, false, false, false, false, false, false] rfl rfl (by kernel_rfl) (fun _ _ _ h => h) (Or.inl ⟨by rfl, ?_⟩) ?_ ?_
      · intro w'
        exact (by go_simp; first | done | (rw [i64_w]; assumption))
      rotate_left
      · simp only [Act.put, List.setIfInBounds_toArray, List.set_cons_zero, List.set_cons_succ, i64_w, i32_w]
        rfl
      refine pure_ (i := 38) (N := some 97) (v := ?_) (a' := ?_) #[true, true, true, true, true, true, true, true, true, true, true, true, true, true, true, true, true, true, true, true, true, true, true, true, true, true, true, true, true, true, true, true, true, true, true, true, true, true, true, false, false, false, false, false, false, false, false, false, false] rfl rfl (by kernel_rfl) (fun _ _ _ h => h) (Or.inl ⟨by rfl, ?_⟩) ?_ ?_
      rotate_left
      · intro w'
        go_simp
        with_reducible rfl
      rotate_left
      · simp only [Act.put, List.setIfInBounds_toArray, List.set_cons_zero, List.set_cons_succ, i64_w, i32_w]
        rfl
      refine take_ (i := 39) (N := some 98) (v := .pointer (some ⟨p, 0, none⟩)) (a' := ?_) #[true, true, true, true, true, true, true, true, true, true, true, true, true, true, true, true, true, true, true, true, true, true, true, true, true, true, true, true, true, true, true, true, true, true, true, true, true, true, true, true, false, false, false, false, false, false, false, false, false] rfl rfl (by kernel_rfl) (fun _ _ _ h => h) (Or.inl ⟨by rfl, ?_⟩) hHeld ?_ ?_
      · intro w' hs_
        obtain ⟨hs0, hs1, hs2, hs3, hs4, hs5⟩ := hs_
        exact (by have x_ : w'.cell? ⟨gp, 0, none⟩ = some (.pointer (some ⟨p, 0, none⟩)) := hs0.cell 0 _ rfl; go_simp; done)
      rotate_left
      · simp only [Act.put, List.setIfInBounds_toArray, List.set_cons_zero, List.set_cons_succ, i64_w, i32_w]
        rfl
      refine one_ (i := 40) (N := some 99) #[true, true, true, true, true, true, true, true, true, true, true, true, true, true, true, true, true, true, true, true, true, true, true, true, true, true, true, true, true, true, true, true, true, true, true, true, true, true, true, true, true, false, false, false, false, false, false, false, false] rfl rfl (by kernel_rfl) (by decide) (fun K hK => ?_)
      refine goes_ Try.func24 (by kernel_rfl) rfl #[.pointer (some ⟨p, 0, none⟩)] (by rfl) rfl rfl (by (try simp only [List.map_toArray, List.map_cons, List.map_nil]); first | done | rfl) ?_
      refine (disk_Pending.part w wa _ p n d (HSa.out.perm [1, 0, 2, 3, 4, 5] 6 (by decide) (by decide))).mono ?_
      rintro e w' ⟨rfl, rfl⟩
      rw [HPN.out]
      refine ⟨_, rfl, ?_⟩
      clear hHeld
      refine hK.out _ _ ⟨HSa.out.boxed 3 rfl, HSa.out.boxed 4 rfl, (HCA1.out _ (HSa.out)).1.1, (HCA1.out _ (HSa.out)).1.2, (HCA1.out _ (HSa.out)).2.1, (HCA1.out _ (HSa.out)).2.2⟩ (fun hHeld => ?_)
      clear hK K
      refine norm_ (a' := ?_) ?_ ?_
      rotate_left
      · show Act.put _ (some 99) _ = _
        simp only [Act.put, List.setIfInBounds_toArray, List.set_cons_zero, List.set_cons_succ, i64_w, i32_w]
        rfl
      refine pure_ (i := 41) (N := some 100) (v := .bool true) (a' := ?_) #[true, true, true, true, true, true, true, true, true, true, true, true, true, true, true, true, true, true, true, true, true, true, true, true, true, true, true, true, true, true, true, true, true, true, true, true, true, true, true, true, true, true, false, false, false, false, false, false, false] rfl rfl (by kernel_rfl) (fun _ _ _ h => h) (Or.inl ⟨by rfl, ?_⟩) ?_ ?_
      · intro w'
        exact (by go_simp; first | done | (rw [i64_w]; assumption))
      rotate_left
      · simp only [Act.put, List.setIfInBounds_toArray, List.set_cons_zero, List.set_cons_succ, i64_w, i32_w]
        rfl
      refine pure_ (i := 42) (N := some 101) (v := .bool true) (a' := ?_) #[true, true, true, true, true, true, true, true, true, true, true, true, true, true, true, true, true, true, true, true, true, true, true, true, true, true, true, true, true, true, true, true, true, true, true, true, true, true, true, true, true, true, true, false, false, false, false, false, false] rfl rfl (by kernel_rfl) (fun _ _ _ h => h) (Or.inl ⟨by rfl, ?_⟩) ?_ ?_
      · intro w'
        exact (by go_simp; first | done | (rw [i64_w]; assumption))
      rotate_left
      · simp only [Act.put, List.setIfInBounds_toArray, List.set_cons_zero, List.set_cons_succ, i64_w, i32_w]
        rfl
      refine pure_ (i := 43) (N := some 102) (v := .bool true) (a' := ?_) #[true, true, true, true, true, true, true, true, true, true, true, true, true, true, true, true, true, true, true, true, true, true, true, true, true, true, true, true, true, true, true, true, true, true, true, true, true, true, true, true, true, true, true, true, false, false, false, false, false] rfl rfl (by kernel_rfl) (fun _ _ _ h => h) (Or.inl ⟨by rfl, ?_⟩) ?_ ?_
      · intro w'
        exact (by go_simp; first | done | (rw [i64_w]; assumption))
      rotate_left
      · simp only [Act.put, List.setIfInBounds_toArray, List.set_cons_zero, List.set_cons_succ, i64_w, i32_w]
        rfl
      refine pure_ (i := 44) (N := some 103) (v := undef) (a' := ?_) #[true, true, true, true, true, true, true, true, true, true, true, true, true, true, true, true, true, true, true, true, true, true, true, true, true, true, true, true, true, true, true, true, true, true, true, true, true, true, true, true, true, true, true, true, true, false, false, false, false] rfl rfl (by kernel_rfl) (fun _ _ _ h => h) (Or.inr ⟨by rfl, rfl⟩) ?_ ?_
      rotate_left
      · simp only [Act.put, List.setIfInBounds_toArray, List.set_cons_zero, List.set_cons_succ, i64_w, i32_w]
        rfl
      refine pure_ (i := 45) (N := some 104) (v := undef) (a' := ?_) #[true, true, true, true, true, true, true, true, true, true, true, true, true, true, true, true, true, true, true, true, true, true, true, true, true, true, true, true, true, true, true, true, true, true, true, true, true, true, true, true, true, true, true, true, true, true, false, false, false] rfl rfl (by kernel_rfl) (fun _ _ _ h => h) (Or.inr ⟨by rfl, rfl⟩) ?_ ?_
      rotate_left
      · simp only [Act.put, List.setIfInBounds_toArray, List.set_cons_zero, List.set_cons_succ, i64_w, i32_w]
        rfl
      refine pure_ (i := 46) (N := some 105) (v := undef) (a' := ?_) #[true, true, true, true, true, true, true, true, true, true, true, true, true, true, true, true, true, true, true, true, true, true, true, true, true, true, true, true, true, true, true, true, true, true, true, true, true, true, true, true, true, true, true, true, true, true, true, false, false] rfl rfl (by kernel_rfl) (fun _ _ _ h => h) (Or.inr ⟨by rfl, rfl⟩) ?_ ?_
      rotate_left
      · simp only [Act.put, List.setIfInBounds_toArray, List.set_cons_zero, List.set_cons_succ, i64_w, i32_w]
        rfl
      refine pure_ (i := 47) (N := some 106) (v := .bool true) (a' := ?_) #[true, true, true, true, true, true, true, true, true, true, true, true, true, true, true, true, true, true, true, true, true, true, true, true, true, true, true, true, true, true, true, true, true, true, true, true, true, true, true, true, true, true, true, true, true, true, true, true, false] rfl rfl (by kernel_rfl) (fun _ _ _ h => h) (Or.inl ⟨by rfl, ?_⟩) ?_ ?_
      · intro w'
        exact (by go_simp; first | done | (rw [i64_w]; assumption))
      rotate_left
      · simp only [Act.put, List.setIfInBounds_toArray, List.set_cons_zero, List.set_cons_succ, i64_w, i32_w]
        rfl
      refine pure_ (i := 48) (N := some 4) (v := ?_) (a' := ?_) #[true, true, true, true, true, true, true, true, true, true, true, true, true, true, true, true, true, true, true, true, true, true, true, true, true, true, true, true, true, true, true, true, true, true, true, true, true, true, true, true, true, true, true, true, true, true, true, true, true] rfl rfl (by kernel_rfl) (fun _ _ _ h => h) (Or.inl ⟨by rfl, ?_⟩) ?_ ?_
      rotate_left
      · intro w'
        go_simp
        with_reducible rfl
      rotate_left
      · simp only [Act.put, List.setIfInBounds_toArray, List.set_cons_zero, List.set_cons_succ, i64_w, i32_w]
        rfl
      clear hHeld
      refine done_ (by kernel_rfl) ?_
      go_wp2
      go_ret
      exact ⟨rfl, HSa.out.below⟩
end Go.Proofs.Ytlbfpjhnpnbikaa.U
