/- Ux47: what this claim uses. Laid by slim.py (ours). -/
import Derived.Test.YtlbfpjhnpnbikaaKUx3
import Derived.Test.YtlbfpjhnpnbikaaKUx0
import Derived.Test.YtlbfpjhnpnbikaaKUx9
import Derived.Test.YtlbfpjhnpnbikaaKUx18
import Derived.Test.YtlbfpjhnpnbikaaKUx30
import Derived.Test.YtlbfpjhnpnbikaaKUx37
import Derived.Test.YtlbfpjhnpnbikaaKUx39
import Derived.Test.YtlbfpjhnpnbikaaKUx43
namespace Go.Proofs.Ytlbfpjhnpnbikaa.U
open Go.RowKit Go.Proofs.YtlbfpjhnpnbikaaW.PrintWords Go.Proofs.YtlbfpjhnpnbikaaW.PrintLast Go.Proofs.YtlbfpjhnpnbikaaW.PrintMore
attribute [local go_sem] max2_int min2_int max_two min_two max_three min_three max_four min_four
set_option linter.unusedVariables false
set_option linter.unusedSimpArgs false
def undercroftlaw04_LogReopens.f (a b c : Int) (l : List S62) : Option Bool := if okD4 l = true then some true else none
set_option maxHeartbeats 16000000 in
set_option maxRecDepth 100000 in
theorem undercroftlaw04_LogReopens.calls (a0_0 a0_1 a0_2 : Int) (A1 : Option Addr) (c1 : Nat) (l1 : List S62) (r : Bool) (w : World) (hr1 : Kd.C k62 w A1 l1.length l1) (hc1 : l1.length ≤ c1) (h : undercroftlaw04_LogReopens.f a0_0 a0_1 a0_2 l1 = some r) :
    Calls Try.prog 7 #[.agg #[.int .i64 a0_0, .int .i64 a0_1, .int .i64 a0_2], .slice A1 l1.length c1] w fun e w' => e = .returned (.bool r) ∧ Below w.heap.size w w' := by
  unfold undercroftlaw04_LogReopens.f at h
  by_cases hok : okD4 l1 = true
  rotate_left
  · rw [if_neg hok] at h
    cases h
  rw [if_pos hok] at h
  obtain rfl := Option.some.inj h
  have HC1 := Aside0.mk hc1
  have HCA : Aside0 (∀ (i : Nat) (x : S62) (a : Int), (l1.take 24)[i]? = some x → 0 ≤ a ∧ a < 18446744073709551616 → Pure.Came a x.f1.f1 x.f1.f2) := ⟨fun i x a hx ha => okD4_at hok hx ha⟩
  have HL : Aside0 (∀ w', Below w.heap.size w w' → Kd.C k62 w' A1 (l1.take 24).length (l1.take 24)) := ⟨fun w' hb => take24 (Kd.C_below hr1 hb)⟩
  have HLL : Aside0 ((l1.take 24).length ≤ 24 ∧ (l1.take 24).length ≤ c1) := ⟨by rw [List.length_take]; omega⟩
  have HS0 := Aside0.mk ((X.Lies.start w).alloc #[.int .i64 a0_0, .int .i64 a0_1, .int .i64 a0_2] 24)
  clear h hok hr1 hc1
  go_enter Try.func7, Try.ntmps7
  go_wp2_with fail
  refine (undercroftlaw04_alive.yes _).mono ?_
  rintro e w2 ⟨rfl, hb⟩
  have HS2 := Aside0.mk (HS0.out.grow hb)
  clear hb HS0
  obtain ⟨gx, hgx⟩ : ∃ gx, gx = w.heap.size := ⟨_, rfl⟩
  rw [← hgx] at HS2 ⊢
  clear hgx
  have HRA := Aside0.mk (Pure.blk_range (HS2.out.boxed 0 rfl))
  go_wp2_with ((with_reducible refine gate_ (.load 24 (.tmp 2)) rfl ?_); (refine wpList_load_mid rfl 24 (.tmp 2) rfl gx 0 rfl [.int .i64 a0_0, .int .i64 a0_1, .int .i64 a0_2] _ HRA.out Try.underlying24 rfl info_area ?_))
  refine (undercroftlaw04_opened.part w w2 _ a0_0 a0_1 a0_2 HS2.out).mono ?_
  rintro e w3 h
  rcases h with ⟨-, rfl, hs⟩ | ⟨n, st, ln, p, g, q, g2, rfl, rfl, rfl, hn1, hn2, hA, rfl, hs⟩
  · have HB := Aside0.mk (hs.alloc #[.pointer none, .pointer none, .pointer none] 50).below
    clear hs HS2 HRA
    go_wp2_with fail
    go_ret
    exact ⟨rfl, HB.out⟩
  have HN : Aside0 (1 ≤ n ∧ n ≤ 1024) := ⟨hn1, hn2⟩
  have HA := Aside0.mk hA
  obtain ⟨gp, hgp⟩ : ∃ gp, gp = w3.heap.size := ⟨_, rfl⟩
  have HS3 : Aside0 (X.Lies w (w3.alloc (.cells #[.pointer (some ⟨p, 0, none⟩), .pointer (some ⟨g, 0, none⟩), .pointer (some ⟨g2, 0, none⟩)] 50)) [.disk p n (Pure.newD n st ln), Pure.logP g p (Pure.newS st ln), .box gp #[.pointer (some ⟨p, 0, none⟩), .pointer (some ⟨g, 0, none⟩), .pointer (some ⟨g2, 0, none⟩)] 50, .box gx #[.int .i64 (n : Int), .int .i64 (st : Int), .int .i64 (ln : Int)] 24]) := ⟨by rw [hgp]; exact (hs.alloc _ _).perm [1, 2, 0, 5] 6 (by decide) (by decide)⟩
  have HSO := Aside0.mk (Pure.new_sound hn1 hn2 hA)
  clear hn1 hn2 hA hs HS2 HRA
  have HHD := Aside0.mk (Pure.Heads.new HN.out.1 HN.out.2 HA.out)
  go_wp2_with fail
  refine (undercroftlaw04_few.part A1 c1 l1 _ HC1.out).mono ?_
  rintro e w' ⟨rfl, rfl⟩
  rw [← hgp]
  clear hgp
  obtain ⟨l, hl⟩ : ∃ l, l = l1.take 24 := ⟨_, rfl⟩
  rw [← hl] at HL HLL HCA ⊢
  clear hl
  generalize World.alloc _ _ = w4 at *
  go_wp2_with fail
  go_loopg [8, 9, 10] l.length (fun gk v8_ v9_ v10_ w' => ∃ (i : Nat) (d : X.DS) (ls : Pure.LS), v8_ = .int .i64 (i : Int) ∧ Aside0 (gk + i = l.length) ∧ Aside0 (Pure.Sound n d ls (2 * i)) ∧ Aside0 (Pure.Heads d ls) ∧ Aside0 (ls.st = st ∧ ls.len = ln) ∧ Aside0 (X.Lies w w' [.disk p n d, Pure.logP g p ls, .box gp #[.pointer (some ⟨p, 0, none⟩), .pointer (some ⟨g, 0, none⟩), .pointer (some ⟨g2, 0, none⟩)] 50, .box gx #[.int .i64 (n : Int), .int .i64 (st : Int), .int .i64 (ln : Int)] 24]))
  case atStart => exact ⟨0, _, _, rfl, ⟨by omega⟩, HSO, HHD, ⟨rfl, rfl⟩, HS3⟩
  case round =>
    clear HS3 HSO HHD
    obtain ⟨i, d, ls, rfl, HK, HSO, HHD, HSL, HS⟩ := hrel
    by_cases hlt : i < l.length
    · have q0 : decide ((i : Int) < (l.length : Int)) = true := decide_eq_true (by omega)
      have q00 : decide (i < l.length) = true := decide_eq_true hlt
      obtain ⟨x, hx⟩ : ∃ x, l[i]? = some x := ⟨_, List.getElem?_eq_getElem hlt⟩
      obtain ⟨ga, oa, Aw, cw, Ar, cr, Ab, cb, rfl, hrg, hdw, hdr, -⟩ := deed4_at (HL.out w (Below.refl _ _)) hx
      have HRG := Aside0.mk hrg
      have HDW := Aside0.mk hdw
      have HDR := Aside0.mk hdr
      have HCM := Aside0.mk (HCA.out i x ls.seq hx HSO.out.ok.sq)
      have HKB := Aside0.mk hlt
      clear hx hrg hdw hdr
      go_wp2_with fail
      refine start_ (n := 20) (S := (fun w' => X.Blk w' gp #[.pointer (some ⟨p, 0, none⟩), .pointer (some ⟨g, 0, none⟩), .pointer (some ⟨g2, 0, none⟩)] 50 ∧ w'.rangeAt ga (oa + i * 5) [.int .i64 x.f0, .int .u64 x.f1.f0, .slice Aw x.f1.f1.length cw, .slice Ar x.f1.f2.length cr, .slice Ab x.f2.length cb])) (ds := []) #[false, false, false, false, false, false, false, false, false, false, false, false, false, false, false, false, false, false, false, false] (by kernel_rfl) rfl rfl ⟨HS.out.drew.boxed 2 rfl, range_below4 HRG.out (X.Lies.below HS.out.drew)⟩ (fun hHeld => ?_)
      have HSa := Aside0.mk (HS.out.drew)
      generalize World.drew _ = wa at *
      clear HS
      refine pure_ (i := 0) (N := some 35) (v := ?_) (a' := ?_) #[true, false, false, false, false, false, false, false, false, false, false, false, false, false, false, false, false, false, false, false] rfl rfl (by kernel_rfl) (fun _ _ _ h => h) (Or.inl ⟨by rfl, ?_⟩) ?_ ?_
      rotate_left
      · intro w'
        go_simp
        with_reducible rfl
      rotate_left
      · simp only [Act.put, List.setIfInBounds_toArray, List.set_cons_zero, List.set_cons_succ, i64_w, i32_w]
        rfl
      refine take_ (i := 1) (N := some 36) (v := .pointer (some ⟨g, 0, none⟩)) (a' := ?_) #[true, true, false, false, false, false, false, false, false, false, false, false, false, false, false, false, false, false, false, false] rfl rfl (by kernel_rfl) (fun _ _ _ h => h) (Or.inl ⟨by rfl, ?_⟩) hHeld ?_ ?_
      · intro w' hs_
        obtain ⟨hs0, hs1⟩ := hs_
        exact (by have x_ : w'.cell? ⟨gp, 1, none⟩ = some (.pointer (some ⟨g, 0, none⟩)) := hs0.cell 1 _ rfl; go_simp; done)
      rotate_left
      · simp only [Act.put, List.setIfInBounds_toArray, List.set_cons_zero, List.set_cons_succ, i64_w, i32_w]
        rfl
      refine pure_ (i := 2) (N := some 37) (v := ?_) (a' := ?_) #[true, true, true, false, false, false, false, false, false, false, false, false, false, false, false, false, false, false, false, false] rfl rfl (by kernel_rfl) (fun _ _ _ h => h) (Or.inl ⟨by rfl, ?_⟩) ?_ ?_
      rotate_left
      · intro w'
        go_simp
        with_reducible rfl
      rotate_left
      · simp only [Act.put, List.setIfInBounds_toArray, List.set_cons_zero, List.set_cons_succ, i64_w, i32_w]
        rfl
      refine pure_ (i := 3) (N := some 38) (v := ?_) (a' := ?_) #[true, true, true, true, false, false, false, false, false, false, false, false, false, false, false, false, false, false, false, false] rfl rfl (by kernel_rfl) (fun _ _ _ h => h) (Or.inl ⟨by rfl, ?_⟩) ?_ ?_
      rotate_left
      · intro w'
        go_simp
        with_reducible rfl
      rotate_left
      · simp only [Act.put, List.setIfInBounds_toArray, List.set_cons_zero, List.set_cons_succ, i64_w, i32_w]
        rfl
      refine pure_ (i := 4) (N := some 39) (v := ?_) (a' := ?_) #[true, true, true, true, true, false, false, false, false, false, false, false, false, false, false, false, false, false, false, false] rfl rfl (by kernel_rfl) (fun _ _ _ h => h) (Or.inl ⟨by rfl, ?_⟩) ?_ ?_
      rotate_left
      · intro w'
        go_simp
        with_reducible rfl
      rotate_left
      · simp only [Act.put, List.setIfInBounds_toArray, List.set_cons_zero, List.set_cons_succ, i64_w, i32_w]
        rfl
      refine pure_ (i := 5) (N := some 40) (v := ?_) (a' := ?_) #[true, true, true, true, true, true, false, false, false, false, false, false, false, false, false, false, false, false, false, false] rfl rfl (by kernel_rfl) (fun _ _ _ h => h) (Or.inl ⟨by rfl, ?_⟩) ?_ ?_
      rotate_left
      · intro w'
        go_simp
        with_reducible rfl
      rotate_left
      · simp only [Act.put, List.setIfInBounds_toArray, List.set_cons_zero, List.set_cons_succ, i64_w, i32_w]
        rfl
      refine pure_ (i := 6) (N := some 41) (v := ?_) (a' := ?_) #[true, true, true, true, true, true, true, false, false, false, false, false, false, false, false, false, false, false, false, false] rfl rfl (by kernel_rfl) (fun _ _ _ h => h) (Or.inl ⟨by rfl, ?_⟩) ?_ ?_
      rotate_left
      · intro w'
        go_simp
        with_reducible rfl
      rotate_left
      · simp only [Act.put, List.setIfInBounds_toArray, List.set_cons_zero, List.set_cons_succ, i64_w, i32_w]
        rfl
      refine take_ (i := 7) (N := some 42) (v := .slice Aw x.f1.f1.length cw) (a' := ?_) #[true, true, true, true, true, true, true, true, false, false, false, false, false, false, false, false, false, false, false, false] rfl rfl (by kernel_rfl) (fun _ _ _ h => h) (Or.inl ⟨by rfl, ?_⟩) hHeld ?_ ?_
      · intro w' hs_
        obtain ⟨hs0, hs1⟩ := hs_
        exact (by have x_ : w'.cell? ⟨ga, oa + i * 5 + 2, none⟩ = some (.slice Aw x.f1.f1.length cw) := hs1 2 _ rfl; have y_ : w'.cell? ⟨ga, oa + i * 5 + 1 + 1, none⟩ = some (.slice Aw x.f1.f1.length cw) := x_; go_simp; done)
      rotate_left
      · simp only [Act.put, List.setIfInBounds_toArray, List.set_cons_zero, List.set_cons_succ, i64_w, i32_w]
        rfl
      refine pure_ (i := 8) (N := some 43) (v := ?_) (a' := ?_) #[true, true, true, true, true, true, true, true, true, false, false, false, false, false, false, false, false, false, false, false] rfl rfl (by kernel_rfl) (fun _ _ _ h => h) (Or.inl ⟨by rfl, ?_⟩) ?_ ?_
      rotate_left
      · intro w'
        go_simp
        with_reducible rfl
      rotate_left
      · simp only [Act.put, List.setIfInBounds_toArray, List.set_cons_zero, List.set_cons_succ, i64_w, i32_w]
        rfl
      refine pure_ (i := 9) (N := some 44) (v := ?_) (a' := ?_) #[true, true, true, true, true, true, true, true, true, true, false, false, false, false, false, false, false, false, false, false] rfl rfl (by kernel_rfl) (fun _ _ _ h => h) (Or.inl ⟨by rfl, ?_⟩) ?_ ?_
      rotate_left
      · intro w'
        go_simp
        with_reducible rfl
      rotate_left
      · simp only [Act.put, List.setIfInBounds_toArray, List.set_cons_zero, List.set_cons_succ, i64_w, i32_w]
        rfl
      refine pure_ (i := 10) (N := some 45) (v := ?_) (a' := ?_) #[true, true, true, true, true, true, true, true, true, true, true, false, false, false, false, false, false, false, false, false] rfl rfl (by kernel_rfl) (fun _ _ _ h => h) (Or.inl ⟨by rfl, ?_⟩) ?_ ?_
      rotate_left
      · intro w'
        go_simp
        with_reducible rfl
      rotate_left
      · simp only [Act.put, List.setIfInBounds_toArray, List.set_cons_zero, List.set_cons_succ, i64_w, i32_w]
        rfl
      refine pure_ (i := 11) (N := some 46) (v := ?_) (a' := ?_) #[true, true, true, true, true, true, true, true, true, true, true, true, false, false, false, false, false, false, false, false] rfl rfl (by kernel_rfl) (fun _ _ _ h => h) (Or.inl ⟨by rfl, ?_⟩) ?_ ?_
      rotate_left
      · intro w'
        go_simp
        with_reducible rfl
      rotate_left
      · simp only [Act.put, List.setIfInBounds_toArray, List.set_cons_zero, List.set_cons_succ, i64_w, i32_w]
        rfl
      refine pure_ (i := 12) (N := some 47) (v := ?_) (a' := ?_) #[true, true, true, true, true, true, true, true, true, true, true, true, true, false, false, false, false, false, false, false] rfl rfl (by kernel_rfl) (fun _ _ _ h => h) (Or.inl ⟨by rfl, ?_⟩) ?_ ?_
      rotate_left
      · intro w'
        go_simp
        with_reducible rfl
      rotate_left
      · simp only [Act.put, List.setIfInBounds_toArray, List.set_cons_zero, List.set_cons_succ, i64_w, i32_w]
        rfl
      refine take_ (i := 13) (N := some 48) (v := .slice Ar x.f1.f2.length cr) (a' := ?_) #[true, true, true, true, true, true, true, true, true, true, true, true, true, true, false, false, false, false, false, false] rfl rfl (by kernel_rfl) (fun _ _ _ h => h) (Or.inl ⟨by rfl, ?_⟩) hHeld ?_ ?_
      · intro w' hs_
        obtain ⟨hs0, hs1⟩ := hs_
        exact (by have x_ : w'.cell? ⟨ga, oa + i * 5 + 3, none⟩ = some (.slice Ar x.f1.f2.length cr) := hs1 3 _ rfl; have y_ : w'.cell? ⟨ga, oa + i * 5 + 1 + 2, none⟩ = some (.slice Ar x.f1.f2.length cr) := x_; go_simp; done)
      rotate_left
      · simp only [Act.put, List.setIfInBounds_toArray, List.set_cons_zero, List.set_cons_succ, i64_w, i32_w]
        rfl
      refine one_ (i := 14) (N := some 49) #[true, true, true, true, true, true, true, true, true, true, true, true, true, true, true, false, false, false, false, false] rfl rfl (by kernel_rfl) (by decide) (fun K hK => ?_)
      refine goes_ Try.func22 (by kernel_rfl) rfl #[.pointer (some ⟨g, 0, none⟩), .slice Aw x.f1.f1.length cw, .slice Ar x.f1.f2.length cr] (by rfl) rfl rfl (by (try simp only [List.map_toArray, List.map_cons, List.map_nil]); first | done | rfl) ?_
      refine (log_Append.part w wa _ g p n d ls Aw cw x.f1.f1 Ar cr x.f1.f2 HSa.out HSO.out.ok (X.Rd.arg HDW.out.2) HDW.out.1 (X.Rd.arg HDR.out.2) HDR.out.1 HCM.out (by have := HSO.out.pend; have := HKB.out; have := HLL.out; omega) (by have := HSO.out.live; have := HKB.out; have := HLL.out; omega)).mono ?_
      rintro e wb ⟨rfl, hs⟩
      have HSb := Aside0.mk hs
      refine ⟨_, rfl, ?_⟩
      clear hs HSa hHeld
      refine hK.out _ _ ⟨HSb.out.boxed 2 rfl, range_below4 HRG.out (X.Lies.below HSb.out)⟩ (fun hHeld => ?_)
      clear hK K
      refine norm_ (a' := ?_) ?_ ?_
      rotate_left
      · show Act.put _ (some 49) _ = _
        simp only [Act.put, List.setIfInBounds_toArray, List.set_cons_zero, List.set_cons_succ, i64_w, i32_w]
        rfl
      refine pure_ (i := 15) (N := some 34) (v := ?_) (a' := ?_) #[true, true, true, true, true, true, true, true, true, true, true, true, true, true, true, true, false, false, false, false] rfl rfl (by kernel_rfl) (fun _ _ _ h => h) (Or.inl ⟨by rfl, ?_⟩) ?_ ?_
      rotate_left
      · intro w'
        go_simp
        with_reducible rfl
      rotate_left
      · simp only [Act.put, List.setIfInBounds_toArray, List.set_cons_zero, List.set_cons_succ, i64_w, i32_w]
        rfl
      refine pure_ (i := 16) (N := some 50) (v := ?_) (a' := ?_) #[true, true, true, true, true, true, true, true, true, true, true, true, true, true, true, true, true, false, false, false] rfl rfl (by kernel_rfl) (fun _ _ _ h => h) (Or.inl ⟨by rfl, ?_⟩) ?_ ?_
      rotate_left
      · intro w'
        go_simp
        with_reducible rfl
      rotate_left
      · simp only [Act.put, List.setIfInBounds_toArray, List.set_cons_zero, List.set_cons_succ, i64_w, i32_w]
        rfl
      refine pure_ (i := 17) (N := some 51) (v := ?_) (a' := ?_) #[true, true, true, true, true, true, true, true, true, true, true, true, true, true, true, true, true, true, false, false] rfl rfl (by kernel_rfl) (fun _ _ _ h => h) (Or.inl ⟨by rfl, ?_⟩) ?_ ?_
      rotate_left
      · intro w'
        go_simp
        with_reducible rfl
      rotate_left
      · simp only [Act.put, List.setIfInBounds_toArray, List.set_cons_zero, List.set_cons_succ, i64_w, i32_w]
        rfl
      refine pure_ (i := 18) (N := some 9) (v := ?_) (a' := ?_) #[true, true, true, true, true, true, true, true, true, true, true, true, true, true, true, true, true, true, true, false] rfl rfl (by kernel_rfl) (fun _ _ _ h => h) (Or.inl ⟨by rfl, ?_⟩) ?_ ?_
      rotate_left
      · intro w'
        go_simp
        with_reducible rfl
      rotate_left
      · simp only [Act.put, List.setIfInBounds_toArray, List.set_cons_zero, List.set_cons_succ, i64_w, i32_w]
        rfl
      refine pure_ (i := 19) (N := some 10) (v := ?_) (a' := ?_) #[true, true, true, true, true, true, true, true, true, true, true, true, true, true, true, true, true, true, true, true] rfl rfl (by kernel_rfl) (fun _ _ _ h => h) (Or.inl ⟨by rfl, ?_⟩) ?_ ?_
      rotate_left
      · intro w'
        go_simp
        with_reducible rfl
      rotate_left
      · simp only [Act.put, List.setIfInBounds_toArray, List.set_cons_zero, List.set_cons_succ, i64_w, i32_w]
        rfl
      clear hHeld
      refine done_ (by kernel_rfl) ?_
      clear hlt
      have HS2 := Aside0.mk (HSO.out.app HCM.out)
      have HHD2 := Aside0.mk (Pure.Heads.app (n := n) (ws := x.f1.f1) (rs := x.f1.f2) HHD.out)
      have HSL2 : Aside0 ((Pure.appS n ls x.f1.f1 x.f1.f2).st = st ∧ (Pure.appS n ls x.f1.f1 x.f1.f2).len = ln) := ⟨by have := Pure.appS_st n ls x.f1.f1 x.f1.f2; have := HSL.out; omega⟩
      obtain ⟨d2, hd2⟩ : ∃ d2, d2 = Pure.appD n d ls x.f1.f1 x.f1.f2 := ⟨_, rfl⟩
      obtain ⟨s2, hs2⟩ : ∃ s2, s2 = Pure.appS n ls x.f1.f1 x.f1.f2 := ⟨_, rfl⟩
      obtain ⟨E, hE⟩ : ∃ E, E = Pure.appE n ls x.f1.f1 x.f1.f2 := ⟨_, rfl⟩
      rw [← hd2, ← hs2] at HS2 HHD2 HSb
      rw [← hs2] at HSL2
      rw [← hE]
      clear hd2 hs2 hE HSO HHD HSL HCM HDW HDR HRG
      by_cases h9 : E = 9
      · have q5 : (E == 9) = true := beq_iff_eq.mpr h9
        have q6 : decide (E = 9) = true := decide_eq_true h9
        have c1_ : wb.cell? ⟨gp, 1, none⟩ = some (.pointer (some ⟨g, 0, none⟩)) := (HSb.out.boxed 2 rfl).cell 1 _ rfl
        clear h9
        go_wp2_with fail
        refine (log_Home.part w wb _ g p n d2 s2 HSb.out HS2.out.ok (by have := HS2.out.pend; have := HKB.out; have := HLL.out; omega) (by have := HS2.out.live; have := HKB.out; have := HLL.out; omega)).mono ?_
        rintro e wc ⟨rfl, hs⟩
        have HSc := Aside0.mk hs
        have HS3 := Aside0.mk (HS2.out.home.mono (show 2 * i + 1 + 1 ≤ 2 * (i + 1) by omega))
        have HHD3 := Aside0.mk (HHD2.out.home HS2.out.free HS2.out.ok)
        clear hs HSb c1_
        go_wp2_with fail
        cases gk with
        | zero => exact absurd HK.out (by have := HKB.out; omega)
        | succ k1 =>
          go_roundg k1
          case measure => omega
          case rel => exact ⟨i + 1, _, _, by rw [Pure.sucw i (by have := HKB.out; have := HLL.out; omega)]; rfl, ⟨by have := HK.out; omega⟩, HS3, HHD3, HSL2, HSc⟩
      · have q5 : (E == 9) = false := beq_eq_false_iff_ne.mpr h9
        have q6 : decide (E = 9) = false := decide_eq_false h9
        have HS3 := Aside0.mk (HS2.out.mono (show 2 * i + 1 ≤ 2 * (i + 1) by omega))
        clear h9
        go_wp2_with fail
        cases gk with
        | zero => exact absurd HK.out (by have := HKB.out; omega)
        | succ k1 =>
          go_roundg k1
          case measure => omega
          case rel => exact ⟨i + 1, _, _, by rw [Pure.sucw i (by have := HKB.out; have := HLL.out; omega)]; rfl, ⟨by have := HK.out; omega⟩, HS3, HHD2, HSL2, HSb⟩
    · have q0 : decide ((i : Int) < (l.length : Int)) = false := decide_eq_false (by omega)
      have q00 : decide (i < l.length) = false := decide_eq_false hlt
      obtain rfl : i = l.length := by have := HK.out; omega
      have c1_ : wr.cell? ⟨gp, 1, none⟩ = some (.pointer (some ⟨g, 0, none⟩)) := (HS.out.boxed 2 rfl).cell 1 _ rfl
      clear HK hlt
      obtain ⟨rfl, rfl⟩ := HSL.out
      go_wp2_with fail
      refine (log_Home.part w wr _ g p n d ls HS.out HSO.out.ok (by have := HSO.out.pend; have := HLL.out; omega) (by have := HSO.out.live; have := HLL.out; omega)).mono ?_
      rintro e w5 ⟨rfl, hs⟩
      obtain ⟨Al, cl, h5, -⟩ := Pure.logP_open hs.swap
      have HS5 := Aside0.mk h5
      have c1_ : w5.cell? ⟨gp, 1, none⟩ = some (.pointer (some ⟨g, 0, none⟩)) := (h5.boxed 3 rfl).cell 1 _ rfl
      have HOP := Aside0.mk (Pure.home_opens HSO.out.free HSO.out.ok HHD.out)
      clear hs h5 HS
      go_wp2_with fail
      refine (log_Next.part w w5 _ g p _ _ HS5.out).mono ?_
      rintro e w6 ⟨rfl, hs⟩
      have HS6 : Aside0 (X.Lies w w6 (.disk p n (Pure.homeD d ls) :: .box gp #[.pointer (some ⟨p, 0, none⟩), .pointer (some ⟨g, 0, none⟩), .pointer (some ⟨g2, 0, none⟩)] 50 :: .box gx #[.int .i64 (n : Int), .int .i64 (ls.st : Int), .int .i64 (ls.len : Int)] 24 :: [])) := ⟨hs.perm [2, 3, 4] 5 (by decide) (by decide)⟩
      have c0_ : w6.cell? ⟨gp, 0, none⟩ = some (.pointer (some ⟨p, 0, none⟩)) := (HS6.out.boxed 1 rfl).cell 0 _ rfl
      have k1_ : w6.cell? ⟨gx, 1, none⟩ = some (.int .i64 (ls.st : Int)) := (HS6.out.boxed 2 rfl).cell 1 _ rfl
      have k2_ : w6.cell? ⟨gx, 2, none⟩ = some (.int .i64 (ls.len : Int)) := (HS6.out.boxed 2 rfl).cell 2 _ rfl
      rw [show (Pure.homeS ls).seq = ls.seq from rfl, show (Pure.homeS ls).pl = ls.pl from rfl]
      clear hs HS5 c1_
      go_wp2_with fail
      refine (log_Open.part w w6 _ p n _ (ls.st : Int) (ls.len : Int) HS6.out).mono ?_
      rintro e w7 ⟨v, rfl, hv⟩
      rcases hv with ⟨h1, -⟩ | ⟨-, g3, rfl, hs⟩
      · exact absurd HOP.out.1 h1
      rw [HOP.out.1]
      rw [HOP.out.2] at hs
      obtain ⟨s3, hs3⟩ : ∃ s3, s3 = (⟨ls.st, ls.len, ls.seq, ls.pl, []⟩ : Pure.LS) := ⟨_, rfl⟩
      rw [← hs3] at hs
      have HS3F : Aside0 (s3.seq = ls.seq ∧ s3.pl = ls.pl ∧ s3.len = ls.len ∧ s3.used = 0) := ⟨by rw [hs3]; exact ⟨rfl, rfl, rfl, rfl⟩⟩
      obtain ⟨Al3, cl3, h7, -⟩ := Pure.logP_open hs
      have HS7 : Aside0 (X.Lies w w7 (.box g3 (Pure.logC p s3 (.slice Al3 s3.live.length cl3)) 93 :: .box gx #[.int .i64 (n : Int), .int .i64 (ls.st : Int), .int .i64 (ls.len : Int)] 24 :: [])) := ⟨h7.perm [0, 4] 5 (by decide) (by decide)⟩
      clear hs h7 hs3 HS6 c0_ k1_ k2_
      go_wp2_with fail
      refine (log_Next.part w w7 _ g3 p _ _ HS7.out).mono ?_
      rintro e w8 ⟨rfl, hs⟩
      rw [HS3F.out.1, HS3F.out.2.1]
      have HS8 := Aside0.mk hs
      obtain ⟨R, hR⟩ : ∃ R : Nat, R = s3.len - 1 - s3.used := ⟨_, rfl⟩
      have hwr : wrap64 ((ls.len : Int) - 1) = (R : Int) := (Pure.wrap64_id (by have := HSO.out.ok.l0; omega) (by have := HSO.out.ok.l1; omega)).trans (by have := HSO.out.ok.l0; have := HS3F.out; omega)
      have HR2 := Aside0.mk hR
      clear hs hR HS7
      go_wp2_with fail
      refine start_ (n := 17) (S := (fun w' => X.Blk w' gx #[.int .i64 (n : Int), .int .i64 (ls.st : Int), .int .i64 (ls.len : Int)] 24)) (ds := []) #[false, false, false, false, false, false, false, false, false, false, false, false, false, false, false, false, false] (by kernel_rfl) rfl rfl (HS8.out.drew.boxed 1 rfl) (fun hHeld => ?_)
      have HSa := Aside0.mk (HS8.out.drew)
      generalize World.drew _ = wa at *
      clear HS8
      refine pure_ (i := 0) (N := some 83) (v := ?_) (a' := ?_) #[true, false, false, false, false, false, false, false, false, false, false, false, false, false, false, false, false] rfl rfl (by kernel_rfl) (fun _ _ _ h => h) (Or.inl ⟨by rfl, ?_⟩) ?_ ?_
      rotate_left
      · intro w'
        go_simp
        with_reducible rfl
      rotate_left
      · simp only [Act.put, List.setIfInBounds_toArray, List.set_cons_zero, List.set_cons_succ, i64_w, i32_w]
        rfl
      refine pure_ (i := 1) (N := some 84) (v := ?_) (a' := ?_) #[true, true, false, false, false, false, false, false, false, false, false, false, false, false, false, false, false] rfl rfl (by kernel_rfl) (fun _ _ _ h => h) (Or.inl ⟨by rfl, ?_⟩) ?_ ?_
      rotate_left
      · intro w'
        go_simp
        with_reducible rfl
      rotate_left
      · simp only [Act.put, List.setIfInBounds_toArray, List.set_cons_zero, List.set_cons_succ, i64_w, i32_w]
        rfl
      refine pure_ (i := 2) (N := some 85) (v := .bool true) (a' := ?_) #[true, true, true, false, false, false, false, false, false, false, false, false, false, false, false, false, false] rfl rfl (by kernel_rfl) (fun _ _ _ h => h) (Or.inl ⟨by rfl, ?_⟩) ?_ ?_
      · intro w'
        exact (by go_simp; first | done | (rw [i64_w]; assumption))
      rotate_left
      · simp only [Act.put, List.setIfInBounds_toArray, List.set_cons_zero, List.set_cons_succ, i64_w, i32_w]
        rfl
      refine pure_ (i := 3) (N := some 86) (v := .bool true) (a' := ?_) #[true, true, true, true, false, false, false, false, false, false, false, false, false, false, false, false, false] rfl rfl (by kernel_rfl) (fun _ _ _ h => h) (Or.inl ⟨by rfl, ?_⟩) ?_ ?_
      · intro w'
        exact (by go_simp; first | done | (rw [i64_w]; assumption))
      rotate_left
      · simp only [Act.put, List.setIfInBounds_toArray, List.set_cons_zero, List.set_cons_succ, i64_w, i32_w]
        rfl
      refine pure_ (i := 4) (N := some 87) (v := ?_) (a' := ?_) #[true, true, true, true, true, false, false, false, false, false, false, false, false, false, false, false, false] rfl rfl (by kernel_rfl) (fun _ _ _ h => h) (Or.inl ⟨by rfl, ?_⟩) ?_ ?_
      rotate_left
      · intro w'
        go_simp
        with_reducible rfl
      rotate_left
      · simp only [Act.put, List.setIfInBounds_toArray, List.set_cons_zero, List.set_cons_succ, i64_w, i32_w]
        rfl
      refine pure_ (i := 5) (N := some 88) (v := ?_) (a' := ?_) #[true, true, true, true, true, true, false, false, false, false, false, false, false, false, false, false, false] rfl rfl (by kernel_rfl) (fun _ _ _ h => h) (Or.inl ⟨by rfl, ?_⟩) ?_ ?_
      rotate_left
      · intro w'
        go_simp
        with_reducible rfl
      rotate_left
      · simp only [Act.put, List.setIfInBounds_toArray, List.set_cons_zero, List.set_cons_succ, i64_w, i32_w]
        rfl
      refine pure_ (i := 6) (N := some 89) (v := .bool true) (a' := ?_) #[true, true, true, true, true, true, true, false, false, false, false, false, false, false, false, false, false] rfl rfl (by kernel_rfl) (fun _ _ _ h => h) (Or.inl ⟨by rfl, ?_⟩) ?_ ?_
      · intro w'
        exact (by go_simp; first | done | (rw [i64_w]; assumption))
      rotate_left
      · simp only [Act.put, List.setIfInBounds_toArray, List.set_cons_zero, List.set_cons_succ, i64_w, i32_w]
        rfl
      refine pure_ (i := 7) (N := some 90) (v := .bool true) (a' := ?_) #[true, true, true, true, true, true, true, true, false, false, false, false, false, false, false, false, false] rfl rfl (by kernel_rfl) (fun _ _ _ h => h) (Or.inl ⟨by rfl, ?_⟩) ?_ ?_
      · intro w'
        exact (by go_simp; first | done | (rw [i64_w]; assumption))
      rotate_left
      · simp only [Act.put, List.setIfInBounds_toArray, List.set_cons_zero, List.set_cons_succ, i64_w, i32_w]
        rfl
      refine pure_ (i := 8) (N := some 91) (v := .bool true) (a' := ?_) #[true, true, true, true, true, true, true, true, true, false, false, false, false, false, false, false, false] rfl rfl (by kernel_rfl) (fun _ _ _ h => h) (Or.inl ⟨by rfl, ?_⟩) ?_ ?_
      · intro w'
        exact (by go_simp; first | done | (rw [i64_w]; assumption))
      rotate_left
      · simp only [Act.put, List.setIfInBounds_toArray, List.set_cons_zero, List.set_cons_succ, i64_w, i32_w]
        rfl
      refine pure_ (i := 9) (N := some 92) (v := ?_) (a' := ?_) #[true, true, true, true, true, true, true, true, true, true, false, false, false, false, false, false, false] rfl rfl (by kernel_rfl) (fun _ _ _ h => h) (Or.inl ⟨by rfl, ?_⟩) ?_ ?_
      rotate_left
      · intro w'
        go_simp
        with_reducible rfl
      rotate_left
      · simp only [Act.put, List.setIfInBounds_toArray, List.set_cons_zero, List.set_cons_succ, i64_w, i32_w]
        rfl
      refine pure_ (i := 11) (N := some 94) (v := ?_) (a' := ?_) #[true, true, true, true, true, true, true, true, true, true, false, true, false, false, false, false, false] rfl rfl (by kernel_rfl) (fun _ _ _ h => h) (Or.inl ⟨by rfl, ?_⟩) ?_ ?_
      rotate_left
      · intro w'
        go_simp
        with_reducible rfl
      rotate_left
      · simp only [Act.put, List.setIfInBounds_toArray, List.set_cons_zero, List.set_cons_succ, i64_w, i32_w]
        rfl
      refine take_ (i := 12) (N := some 95) (v := .int .i64 (ls.len : Int)) (a' := ?_) #[true, true, true, true, true, true, true, true, true, true, false, true, true, false, false, false, false] rfl rfl (by kernel_rfl) (fun _ _ _ h => h) (Or.inl ⟨by rfl, ?_⟩) hHeld ?_ ?_
      · intro w' hs_
        exact (by have x_ : w'.cell? ⟨gx, 2, none⟩ = some (.int .i64 (ls.len : Int)) := hs_.cell 2 _ rfl; go_simp; done)
      rotate_left
      · simp only [Act.put, List.setIfInBounds_toArray, List.set_cons_zero, List.set_cons_succ, i64_w, i32_w]
        rfl
      refine pure_ (i := 13) (N := some 96) (v := .int .i64 (R : Int)) (a' := ?_) #[true, true, true, true, true, true, true, true, true, true, false, true, true, true, false, false, false] rfl rfl (by kernel_rfl) (fun _ _ _ h => h) (Or.inl ⟨by rfl, ?_⟩) ?_ ?_
      · intro w'
        exact (by go_simp; first | done | (rw [i64_w]; assumption))
      rotate_left
      · simp only [Act.put, List.setIfInBounds_toArray, List.set_cons_zero, List.set_cons_succ, i64_w, i32_w]
        rfl
      refine one_ (i := 10) (N := some 93) #[true, true, true, true, true, true, true, true, true, true, true, true, true, true, false, false, false] rfl rfl (by kernel_rfl) (by decide) (fun K hK => ?_)
      refine goes_ Try.func18 (by kernel_rfl) rfl #[.pointer (some ⟨g3, 0, none⟩)] (by rfl) rfl rfl (by (try simp only [List.map_toArray, List.map_cons, List.map_nil]); first | done | rfl) ?_
      refine (log_Room.part w wa _ g3 p s3 _ HSa.out (by have := HS3F.out; have := HSO.out.ok.l1; omega) (by have := HS3F.out; omega)).mono ?_
      rintro e wb ⟨rfl, hs⟩
      rw [← HR2.out]
      have HSb := Aside0.mk hs
      refine ⟨_, rfl, ?_⟩
      clear hs HSa hHeld
      refine hK.out _ _ (HSb.out.boxed 1 rfl) (fun hHeld => ?_)
      clear hK K
      refine norm_ (a' := ?_) ?_ ?_
      rotate_left
      · show Act.put _ (some 93) _ = _
        simp only [Act.put, List.setIfInBounds_toArray, List.set_cons_zero, List.set_cons_succ, i64_w, i32_w]
        rfl
      refine pure_ (i := 14) (N := some 97) (v := .bool true) (a' := ?_) #[true, true, true, true, true, true, true, true, true, true, true, true, true, true, true, false, false] rfl rfl (by kernel_rfl) (fun _ _ _ h => h) (Or.inl ⟨by rfl, ?_⟩) ?_ ?_
      · intro w'
        exact (by go_simp; first | done | (rw [i64_w]; assumption))
      rotate_left
      · simp only [Act.put, List.setIfInBounds_toArray, List.set_cons_zero, List.set_cons_succ, i64_w, i32_w]
        rfl
      refine pure_ (i := 15) (N := some 98) (v := .bool true) (a' := ?_) #[true, true, true, true, true, true, true, true, true, true, true, true, true, true, true, true, false] rfl rfl (by kernel_rfl) (fun _ _ _ h => h) (Or.inl ⟨by rfl, ?_⟩) ?_ ?_
      · intro w'
        exact (by go_simp; first | done | (rw [i64_w]; assumption))
      rotate_left
      · simp only [Act.put, List.setIfInBounds_toArray, List.set_cons_zero, List.set_cons_succ, i64_w, i32_w]
        rfl
      refine pure_ (i := 16) (N := some 4) (v := ?_) (a' := ?_) #[true, true, true, true, true, true, true, true, true, true, true, true, true, true, true, true, true] rfl rfl (by kernel_rfl) (fun _ _ _ h => h) (Or.inl ⟨by rfl, ?_⟩) ?_ ?_
      rotate_left
      · intro w'
        go_simp
        with_reducible rfl
      rotate_left
      · simp only [Act.put, List.setIfInBounds_toArray, List.set_cons_zero, List.set_cons_succ, i64_w, i32_w]
        rfl
      clear hHeld
      refine done_ (by kernel_rfl) ?_
      go_wp2
      go_ret
      exact ⟨rfl, HSb.out.below⟩
end Go.Proofs.Ytlbfpjhnpnbikaa.U
