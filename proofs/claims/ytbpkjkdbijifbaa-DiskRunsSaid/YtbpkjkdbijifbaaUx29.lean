/- Written by uprint.py (ours) for this seat: functions of the translation as Lean functions, and what their calls do. Not trusted: Lean checks it. -/
import Derived.Test.YtbpkjkdbijifbaaUx0
import Derived.Test.YtbpkjkdbijifbaaUx1
import Derived.Test.YtbpkjkdbijifbaaUx2
import Derived.Test.YtbpkjkdbijifbaaUx4
import Derived.Test.YtbpkjkdbijifbaaUx5
import Derived.Test.YtbpkjkdbijifbaaUx6
import Derived.Test.YtbpkjkdbijifbaaUx8
import Derived.Test.YtbpkjkdbijifbaaUx10
import Derived.Test.YtbpkjkdbijifbaaUx11
import Derived.Test.YtbpkjkdbijifbaaUx12
import Derived.Test.YtbpkjkdbijifbaaUx18
import Derived.Test.YtbpkjkdbijifbaaUx25
import Derived.Test.YtbpkjkdbijifbaaUx26
import Derived.Test.YtbpkjkdbijifbaaUx27
import Derived.Test.YtbpkjkdbijifbaaUx28
namespace Go.Proofs.Ytbpkjkdbijifbaa.U
open Go.RowKit Go.Proofs.YtbpkjkdbijifbaaW.PrintWords Go.Proofs.YtbpkjkdbijifbaaW.PrintLast Go.Proofs.YtbpkjkdbijifbaaW.PrintMore
attribute [local go_sem] max2_int min2_int max_two min_two max_three min_three max_four min_four   -- for this text's walks alone
set_option linter.unusedVariables false
set_option linter.unusedSimpArgs false

/-! ### undercroftlaw02_DiskRuns: function 8 (given) -/
def undercroftlaw02_DiskRuns.f (a0 : Int) (l1 : List S24) : Option Bool := if okD l1 = true then some true else none
set_option maxHeartbeats 8000000 in
set_option maxRecDepth 100000 in
theorem undercroftlaw02_DiskRuns.calls (a0 : Int) (A1 : Option Addr) (c1 : Nat) (l1 : List S24) (r : Bool) (w : World)
    (hr1 : Kd.C k24 w A1 l1.length l1) (hc1 : l1.length ≤ c1) (h : undercroftlaw02_DiskRuns.f a0 l1 = some r) :
    Calls Try.prog 8 #[.int .i64 a0, .slice A1 l1.length c1] w fun e w' => e = .returned (.bool r) ∧ Below w.heap.size w w' := by
  unfold undercroftlaw02_DiskRuns.f at h
  by_cases hok : okD l1 = true
  rotate_left
  · rw [if_neg hok] at h
    cases h
  rw [if_pos hok] at h
  obtain rfl := Option.some.inj h
  clear h
  have HR1 := Aside0.mk hr1
  have HC1 := Aside0.mk hc1
  have HOK1 := Aside0.mk hok
  clear hr1 hc1 hok
  go_enter Try.func8, Try.ntmps8
  go_wp2_with fail
  refine (undercroftlaw02_alive.calls true w rfl).mono ?_
  rintro e w2 ⟨rfl, hb1⟩
  have HS2 := Aside0.mk ((X.Lies.start w).grow hb1)
  clear hb1
  by_cases hn : a0 < 1 ∨ 1024 < a0
  · go_wp2_with fail
    refine (disk_New_no.calls a0 w2 hn).mono ?_
    rintro e w' ⟨rfl, rfl⟩
    go_wp2_with fail
    refine (undercroftref02_New_no.calls a0 w2 hn).mono ?_
    rintro e w' ⟨rfl, rfl⟩
    go_wp2
    go_ret
    exact ⟨rfl, HS2.out.below⟩
  · obtain ⟨n, rfl⟩ := Int.eq_ofNat_of_zero_le (show 0 ≤ a0 by omega)
    have h1 : 1 ≤ n := by omega
    have h2 : n ≤ 1024 := by omega
    have HN := Aside0.mk (And.intro h1 h2)
    clear hn h1 h2
    go_wp2_with fail
    refine (disk_New.part w w2 _ n HS2.out HN.out.1 HN.out.2).mono ?_
    rintro e w3 ⟨p, rfl, hs⟩
    have HS3 := Aside0.mk hs
    clear hs HS2
    go_wp2_with fail
    refine (undercroftref02_New.calls w w3 _ n HS3.out HN.out.1 HN.out.2).mono ?_
    rintro e w4 ⟨q, rfl, hs⟩
    have HS4 : Aside0 (X.Lies w w4 [.disk p n (X.DS.new (List.replicate (256 * n) 0)), .rdisk q n (X.DS.new (List.replicate (256 * n) 0))]) := ⟨hs.perm [1, 0] 2 (by decide) (by decide)⟩
    clear hs HS3
    go_wp2_with fail
    refine (undercroftlaw02_few.calls A1 c1 l1 w4 HC1.out).mono ?_
    rintro e w' ⟨rfl, rfl⟩
    have HOL : Aside0 (∀ i, i < (l1.take 40).length → _) := ⟨okD_at HOK1.out⟩
    obtain ⟨l, hl⟩ : ∃ l, l = l1.take 40 := ⟨_, rfl⟩
    rw [← hl] at HOL ⊢
    have HL : Aside0 (∀ w', Below w.heap.size w w' → Kd.C k24 w' A1 l.length l) := ⟨fun w' hb => by rw [hl]; exact take40 (Kd.C_below HR1.out hb)⟩
    have HLL : Aside0 (l.length ≤ 40 ∧ l.length ≤ c1) := ⟨by rw [hl, List.length_take]; have := HC1.out; omega⟩
    clear hl HR1 HC1 HOK1
    go_wp2_with fail
    go_loopg [10, 11, 12, 13, 14] l.length (fun gk v10 v11 v12 v13 v14 w' => ∃ (i : Nat) (s : X.DS), v10 = .int .i64 (i : Int) ∧ Aside0 (gk + i = l.length) ∧ Aside0 (s.pend.length ≤ i ∧ s.ghosts.length ≤ i) ∧ Aside0 (X.Lies w w' [.disk p n s, .rdisk q n s]))
    case atStart => exact ⟨0, _, rfl, ⟨by omega⟩, ⟨Nat.le_refl _, Nat.le_refl _⟩, HS4⟩
    case round =>
      clear HS4
      obtain ⟨i, s, rfl, HK, HPL, HS⟩ := hrel
      by_cases hlt : i < l.length
      · have q0 : decide ((i : Int) < (l.length : Int)) = true := decide_eq_true (by omega)
        have q00 : decide (i < l.length) = true := decide_eq_true hlt
        obtain ⟨g, o, A4, c4, rfl, hrg, hc4, hC4⟩ := deed_at (HL.out w (Below.refl _ _)) i hlt
        have hbd := HOL.out i hlt
        obtain ⟨x0, hx0⟩ : ∃ x, x = (rd_T24 l (i : Int)).f0 := ⟨_, rfl⟩
        obtain ⟨x1, hx1⟩ : ∃ x, x = (rd_T24 l (i : Int)).f1 := ⟨_, rfl⟩
        obtain ⟨x2, hx2⟩ : ∃ x, x = (rd_T24 l (i : Int)).f2 := ⟨_, rfl⟩
        obtain ⟨x3, hx3⟩ : ∃ x, x = (rd_T24 l (i : Int)).f3 := ⟨_, rfl⟩
        obtain ⟨x4, hx4⟩ : ∃ x, x = (rd_T24 l (i : Int)).f4 := ⟨_, rfl⟩
        rw [← hx0, ← hx1, ← hx2, ← hx3, ← hx4] at hrg
        rw [← hx4] at hc4 hC4 hbd
        rw [← hx1] at hbd
        clear hx0 hx1 hx2 hx3 hx4
        have HRG := Aside0.mk hrg
        have HC4 := Aside0.mk hC4
        have HCC := Aside0.mk hc4
        have HX1 := Aside0.mk hbd
        clear hrg hc4 hC4 hbd
        go_wp2_with fail
        refine start_ (n := 18) (S := (fun w' => w'.rangeAt g (o + i * 5) [.int .i64 x0, .int .i64 x1, .int .u8 x2, .bool x3, .slice A4 x4.length c4])) (ds := []) #[false, false, false, false, false, false, false, false, false, false, false, false, false, false, false, false, false, false] (by kernel_rfl) rfl rfl (range_below HRG.out HS.out.drew.below) (fun hHeld => ?_)
        have HSi := Aside0.mk (HS.out.drew)
        generalize World.drew _ = wi at *
        clear HS
        refine pure_ (i := 0) (N := some 50) (v := ?_) (a' := ?_) #[true, false, false, false, false, false, false, false, false, false, false, false, false, false, false, false, false, false] rfl rfl (by kernel_rfl) (fun _ _ _ h => h) (Or.inl ⟨by rfl, ?_⟩) ?_ ?_
        rotate_left
        · intro w' 
          go_simp
          with_reducible rfl
        rotate_left
        · simp only [Act.put, List.setIfInBounds_toArray, List.set_cons_zero, List.set_cons_succ, i64_w, i32_w]
          rfl
        refine pure_ (i := 1) (N := some 51) (v := ?_) (a' := ?_) #[true, true, false, false, false, false, false, false, false, false, false, false, false, false, false, false, false, false] rfl rfl (by kernel_rfl) (fun _ _ _ h => h) (Or.inl ⟨by rfl, ?_⟩) ?_ ?_
        rotate_left
        · intro w' 
          go_simp
          with_reducible rfl
        rotate_left
        · simp only [Act.put, List.setIfInBounds_toArray, List.set_cons_zero, List.set_cons_succ, i64_w, i32_w]
          rfl
        refine pure_ (i := 2) (N := some 52) (v := ?_) (a' := ?_) #[true, true, true, false, false, false, false, false, false, false, false, false, false, false, false, false, false, false] rfl rfl (by kernel_rfl) (fun _ _ _ h => h) (Or.inl ⟨by rfl, ?_⟩) ?_ ?_
        rotate_left
        · intro w' 
          go_simp
          with_reducible rfl
        rotate_left
        · simp only [Act.put, List.setIfInBounds_toArray, List.set_cons_zero, List.set_cons_succ, i64_w, i32_w]
          rfl
        refine pure_ (i := 3) (N := some 53) (v := ?_) (a' := ?_) #[true, true, true, true, false, false, false, false, false, false, false, false, false, false, false, false, false, false] rfl rfl (by kernel_rfl) (fun _ _ _ h => h) (Or.inl ⟨by rfl, ?_⟩) ?_ ?_
        rotate_left
        · intro w' 
          go_simp
          with_reducible rfl
        rotate_left
        · simp only [Act.put, List.setIfInBounds_toArray, List.set_cons_zero, List.set_cons_succ, i64_w, i32_w]
          rfl
        refine pure_ (i := 4) (N := some 54) (v := ?_) (a' := ?_) #[true, true, true, true, true, false, false, false, false, false, false, false, false, false, false, false, false, false] rfl rfl (by kernel_rfl) (fun _ _ _ h => h) (Or.inl ⟨by rfl, ?_⟩) ?_ ?_
        rotate_left
        · intro w' 
          go_simp
          with_reducible rfl
        rotate_left
        · simp only [Act.put, List.setIfInBounds_toArray, List.set_cons_zero, List.set_cons_succ, i64_w, i32_w]
          rfl
        refine take_ (i := 5) (N := some 55) (v := .agg #[.int .i64 x0, .int .i64 x1, .int .u8 x2, .bool x3, .slice A4 x4.length c4]) (a' := ?_) #[true, true, true, true, true, true, false, false, false, false, false, false, false, false, false, false, false, false] rfl rfl (by kernel_rfl) (fun _ _ _ h => h) (Or.inl ⟨by rfl, ?_⟩) hHeld ?_ ?_
        · intro w' hs_
          exact X.load_exec 24 (.tmp 54) (by rfl) g (o + i * 5) (by rfl) [.int .i64 x0, .int .i64 x1, .int .u8 x2, .bool x3, .slice A4 x4.length c4] _ hs_ Try.underlying24 rfl info_deed
        rotate_left
        · simp only [Act.put, List.setIfInBounds_toArray, List.set_cons_zero, List.set_cons_succ, i64_w, i32_w]
          rfl
        refine one_ (i := 6) (N := some 56) #[true, true, true, true, true, true, true, false, false, false, false, false, false, false, false, false, false, false] rfl rfl (by kernel_rfl) (by decide) (fun K hK => ?_)
        refine goes_ Try.func27 (by kernel_rfl) rfl #[.pointer (some ⟨p, 0, none⟩), .pointer (some ⟨q, 0, none⟩), .agg #[.int .i64 x0, .int .i64 x1, .int .u8 x2, .bool x3, .slice A4 x4.length c4]] (by rfl) rfl rfl (by (try simp only [List.map_toArray, List.map_cons, List.map_nil]); first | done | rfl) ?_
        refine (undercroftlaw02_both.calls w wi _ p q n s x0 x1 x2 x3 A4 c4 x4 HSi.out (X.Rd.arg HC4.out) HCC.out HX1.out.1 HX1.out.2 (by have := HPL.out; have := HLL.out; omega) (by have := HPL.out; have := HLL.out; omega)).mono ?_
        rintro e w6 ⟨rfl, hs⟩
        have HS6 := Aside0.mk hs
        refine ⟨_, rfl, ?_⟩
        clear hs HSi hHeld
        refine hK.out _ _ (range_below HRG.out HS6.out.below) (fun hHeld => ?_)
        clear hK K
        refine norm_ (a' := ?_) ?_ ?_
        rotate_left
        · show Act.put _ (some 56) _ = _
          simp only [Act.put, List.setIfInBounds_toArray, List.set_cons_zero, List.set_cons_succ, i64_w, i32_w]
          rfl
        have HDL := Aside0.mk (deed_len n x0 x1 x2 x3 x4 s)
        obtain ⟨t, ht⟩ : ∃ t, t = deedS n x0 x1 x2 x3 x4 s := ⟨_, rfl⟩
        rw [← ht] at HS6 HDL
        clear ht
        obtain ⟨v0, v1, v2, hokr, hs2⟩ := (HS6.out.perm [1, 0] 2 (by decide) (by decide)).rdisk
        have HOKr := Aside0.mk hokr
        obtain ⟨A1_, c1_, rfl, -, -⟩ := hs2.wform 2 rfl
        have HSm := Aside0.mk hs2
        clear hs2 hokr HS6
        refine X.more_ (fun w' => w'.rangeAt g (o + i * 5) [.int .i64 x0, .int .i64 x1, .int .u8 x2, .bool x3, .slice A4 x4.length c4] ∧ w'.cell? ⟨q, 1, none⟩ = some (.slice A1_ t.pend.length c1_)) ⟨hHeld, (HSm.out.boxed 0 rfl).cell 1 _ rfl⟩ (fun _ h => h.1) (fun hHeld => ?_)
        refine pure_ (i := 7) (N := some 57) (v := .bool false) (a' := ?_) #[true, true, true, true, true, true, true, true, false, false, false, false, false, false, false, false, false, false] rfl rfl (by kernel_rfl) (fun _ _ _ h => h) (Or.inl ⟨by rfl, ?_⟩) ?_ ?_
        · intro w' 
          exact (by go_simp; done)
        rotate_left
        · simp only [Act.put, List.setIfInBounds_toArray, List.set_cons_zero, List.set_cons_succ, i64_w, i32_w]
          rfl
        refine pure_ (i := 8) (N := some 58) (v := .bool false) (a' := ?_) #[true, true, true, true, true, true, true, true, true, false, false, false, false, false, false, false, false, false] rfl rfl (by kernel_rfl) (fun _ _ _ h => h) (Or.inl ⟨by rfl, ?_⟩) ?_ ?_
        · intro w' 
          exact (by go_simp; done)
        rotate_left
        · simp only [Act.put, List.setIfInBounds_toArray, List.set_cons_zero, List.set_cons_succ, i64_w, i32_w]
          rfl
        refine pure_ (i := 9) (N := some 59) (v := ?_) (a' := ?_) #[true, true, true, true, true, true, true, true, true, true, false, false, false, false, false, false, false, false] rfl rfl (by kernel_rfl) (fun _ _ _ h => h) (Or.inl ⟨by rfl, ?_⟩) ?_ ?_
        rotate_left
        · intro w' 
          go_simp
          with_reducible rfl
        rotate_left
        · simp only [Act.put, List.setIfInBounds_toArray, List.set_cons_zero, List.set_cons_succ, i64_w, i32_w]
          rfl
        refine pure_ (i := 11) (N := some 61) (v := ?_) (a' := ?_) #[true, true, true, true, true, true, true, true, true, true, false, true, false, false, false, false, false, false] rfl rfl (by kernel_rfl) (fun _ _ _ h => h) (Or.inl ⟨by rfl, ?_⟩) ?_ ?_
        rotate_left
        · intro w' 
          go_simp
          with_reducible rfl
        rotate_left
        · simp only [Act.put, List.setIfInBounds_toArray, List.set_cons_zero, List.set_cons_succ, i64_w, i32_w]
          rfl
        refine pure_ (i := 12) (N := some 62) (v := ?_) (a' := ?_) #[true, true, true, true, true, true, true, true, true, true, false, true, true, false, false, false, false, false] rfl rfl (by kernel_rfl) (fun _ _ _ h => h) (Or.inl ⟨by rfl, ?_⟩) ?_ ?_
        rotate_left
        · intro w' 
          go_simp
          with_reducible rfl
        rotate_left
        · simp only [Act.put, List.setIfInBounds_toArray, List.set_cons_zero, List.set_cons_succ, i64_w, i32_w]
          rfl
        refine pure_ (i := 13) (N := some 63) (v := ?_) (a' := ?_) #[true, true, true, true, true, true, true, true, true, true, false, true, true, true, false, false, false, false] rfl rfl (by kernel_rfl) (fun _ _ _ h => h) (Or.inl ⟨by rfl, ?_⟩) ?_ ?_
        rotate_left
        · intro w' 
          go_simp
          with_reducible rfl
        rotate_left
        · simp only [Act.put, List.setIfInBounds_toArray, List.set_cons_zero, List.set_cons_succ, i64_w, i32_w]
          rfl
        refine take_ (i := 14) (N := some 64) (v := .slice A1_ t.pend.length c1_) (a' := ?_) #[true, true, true, true, true, true, true, true, true, true, false, true, true, true, true, false, false, false] rfl rfl (by kernel_rfl) (fun _ _ _ h => h) (Or.inl ⟨by rfl, ?_⟩) hHeld ?_ ?_
        · intro w' hs_
          obtain ⟨hsr, hsc1⟩ := hs_
          exact (by go_simp; done)
        rotate_left
        · simp only [Act.put, List.setIfInBounds_toArray, List.set_cons_zero, List.set_cons_succ, i64_w, i32_w]
          rfl
        refine pure_ (i := 15) (N := some 65) (v := .int .i64 (t.pend.length : Int)) (a' := ?_) #[true, true, true, true, true, true, true, true, true, true, false, true, true, true, true, true, false, false] rfl rfl (by kernel_rfl) (fun _ _ _ h => h) (Or.inl ⟨by rfl, ?_⟩) ?_ ?_
        · intro w' 
          exact (by go_simp; done)
        rotate_left
        · simp only [Act.put, List.setIfInBounds_toArray, List.set_cons_zero, List.set_cons_succ, i64_w, i32_w]
          rfl
        refine one_ (i := 10) (N := some 60) #[true, true, true, true, true, true, true, true, true, true, true, true, true, true, true, true, false, false] rfl rfl (by kernel_rfl) (by decide) (fun K hK => ?_)
        refine goes_ Try.func20 (by kernel_rfl) rfl #[.pointer (some ⟨p, 0, none⟩)] (by rfl) rfl rfl (by (try simp only [List.map_toArray, List.map_cons, List.map_nil]); first | done | rfl) ?_
        refine (disk_Pending.part w w6 _ p n t (HSm.out.perm [4, 0, 1, 2, 3] 5 (by decide) (by decide))).mono ?_
        rintro e w' ⟨rfl, rfl⟩
        refine ⟨_, rfl, ?_⟩
        refine hK.out _ _ hHeld (fun hHeld => ?_)
        clear hK K
        refine norm_ (a' := ?_) ?_ ?_
        rotate_left
        · show Act.put _ (some 60) _ = _
          simp only [Act.put, List.setIfInBounds_toArray, List.set_cons_zero, List.set_cons_succ, i64_w, i32_w]
          rfl
        refine pure_ (i := 16) (N := some 66) (v := .bool false) (a' := ?_) #[true, true, true, true, true, true, true, true, true, true, true, true, true, true, true, true, true, false] rfl rfl (by kernel_rfl) (fun _ _ _ h => h) (Or.inl ⟨by rfl, ?_⟩) ?_ ?_
        · intro w' 
          exact (by go_simp; done)
        rotate_left
        · simp only [Act.put, List.setIfInBounds_toArray, List.set_cons_zero, List.set_cons_succ, i64_w, i32_w]
          rfl
        refine pure_ (i := 17) (N := some 67) (v := .bool false) (a' := ?_) #[true, true, true, true, true, true, true, true, true, true, true, true, true, true, true, true, true, true] rfl rfl (by kernel_rfl) (fun _ _ _ h => h) (Or.inl ⟨by rfl, ?_⟩) ?_ ?_
        · intro w' 
          exact (by go_simp; done)
        rotate_left
        · simp only [Act.put, List.setIfInBounds_toArray, List.set_cons_zero, List.set_cons_succ, i64_w, i32_w]
          rfl
        refine done_ (by kernel_rfl) ?_
        have HS6 := Aside0.mk ((X.Lies.mkRdisk HOKr.out HSm.out).perm [1, 0] 2 (by decide) (by decide))
        have hx1_ : w6.cell? ⟨g, o + i * 5 + 1, none⟩ = some (.int .i64 x1) := (range_below HRG.out HSm.out.below) 1 _ rfl
        have HPT : Aside0 (t.pend.length ≤ 500000000000 ∧ t.ghosts.length ≤ 500000000000) := ⟨by have := HPL.out; have := HDL.out; have := HLL.out; omega⟩
        clear HSm hHeld
        go_wp2_with fail
        obtain ⟨ec, hec_⟩ : ∃ ec : Int, Aside0 (ec = (if hasB x1 n = true then 0 else 16)) := ⟨_, ⟨rfl⟩⟩
        obtain ⟨rd_, hrd_⟩ : ∃ rd_ : List Int, Aside0 (rd_ = (if hasB x1 n = true then t.read x1.toNat else [])) := ⟨_, ⟨rfl⟩⟩
        refine (disk_Read.part w w6 _ p n t x1 HS6.out).mono ?_
        rintro e w7 ⟨v, rfl, hs⟩
        rw [← hrd_.out] at hs
        rw [← hec_.out]
        obtain ⟨A7, c7, rfl, -, -⟩ := row_str hs 0 rfl
        have HS7 := Aside0.mk hs
        have hx2_ : w7.cell? ⟨g, o + i * 5 + 1, none⟩ = some (.int .i64 x1) := (range_below HRG.out hs.below) 1 _ rfl
        clear hs HS6 hx1_
        go_wp2_with fail
        refine (undercroftref02_Disk_Read.calls w w7 _ q n t x1 (HS7.out.perm [2, 1, 0] 3 (by decide) (by decide)) HPT.out.1 HPT.out.2).mono ?_
        rintro e w8 ⟨v, rfl, hs⟩
        rw [← hrd_.out] at hs
        rw [← hec_.out]
        obtain ⟨A8, c8, rfl, -, -⟩ := row_str hs 0 rfl
        have k8 := row_conv hs 0 rfl
        have k7 := row_conv hs 3 rfl
        have HF : Aside0 (X.Lies w w8 [.disk p n t, .rdisk q n t]) := ⟨hs.perm [2, 1] 4 (by decide) (by decide)⟩
        clear hs HS7 hx2_
        clear hec_ hrd_
        go_wp2_with fail
        cases gk with
        | zero => exact absurd HK.out (by omega)
        | succ k1 =>
          go_roundg k1
          case measure => omega
          case rel => exact ⟨i + 1, t, by have := HLL.out; rw [show wrap64 ((i : Int) + 1) = ((i + 1 : Nat) : Int) from by unfold wrap64; omega], ⟨by have := HK.out; omega⟩, ⟨by have := HPL.out; have := HDL.out; omega⟩, HF⟩
      · have q0 : decide ((i : Int) < (l.length : Int)) = false := decide_eq_false (by omega)
        have q00 : decide (i < l.length) = false := decide_eq_false hlt
        have HPG0 : Aside0 (s.pend.length ≤ 40 ∧ s.ghosts.length ≤ 40) := ⟨by have := HPL.out; have := HLL.out; have := HK.out; omega⟩
        have HPG : Aside0 (s.pend.length ≤ 500000000000 ∧ s.ghosts.length ≤ 500000000000) := ⟨by have := HPG0.out; omega⟩
        clear HK HPL hlt
        go_wp2_with fail
        refine (disk_Copy.part w wr _ p n s HS.out (by have := HPG0.out; omega)).mono ?_
        rintro e w5 ⟨pc, rfl, hs⟩
        have HS5 : Aside0 (X.Lies w w5 [.disk pc n s, .rdisk q n s, .disk p n s]) := ⟨hs.perm [0, 2, 1] 3 (by decide) (by decide)⟩
        clear hs HS HL HOL HLL
        go_wp2_with fail
        refine start_ (n := 32) (S := (fun _ => True)) (ds := []) #[false, false, false, false, false, false, false, false, false, false, false, false, false, false, false, false, false, false, false, false, false, false, false, false, false, false, false, false, false, false, false, false] (by kernel_rfl) rfl rfl trivial (fun hHeld => ?_)
        have HSi := Aside0.mk (HS5.out.drew)
        generalize World.drew _ = wi at *
        clear HS5
        refine pure_ (i := 0) (N := some 100) (v := ?_) (a' := ?_) #[true, false, false, false, false, false, false, false, false, false, false, false, false, false, false, false, false, false, false, false, false, false, false, false, false, false, false, false, false, false, false, false] rfl rfl (by kernel_rfl) (fun _ _ _ h => h) (Or.inl ⟨by rfl, ?_⟩) ?_ ?_
        rotate_left
        · intro w' 
          go_simp
          with_reducible rfl
        rotate_left
        · simp only [Act.put, List.setIfInBounds_toArray, List.set_cons_zero, List.set_cons_succ, i64_w, i32_w]
          rfl
        refine pure_ (i := 1) (N := some 101) (v := .bool false) (a' := ?_) #[true, true, false, false, false, false, false, false, false, false, false, false, false, false, false, false, false, false, false, false, false, false, false, false, false, false, false, false, false, false, false, false] rfl rfl (by kernel_rfl) (fun _ _ _ h => h) (Or.inl ⟨by rfl, ?_⟩) ?_ ?_
        · intro w' 
          exact (by go_simp; done)
        rotate_left
        · simp only [Act.put, List.setIfInBounds_toArray, List.set_cons_zero, List.set_cons_succ, i64_w, i32_w]
          rfl
        refine pure_ (i := 2) (N := some 102) (v := .bool false) (a' := ?_) #[true, true, true, false, false, false, false, false, false, false, false, false, false, false, false, false, false, false, false, false, false, false, false, false, false, false, false, false, false, false, false, false] rfl rfl (by kernel_rfl) (fun _ _ _ h => h) (Or.inl ⟨by rfl, ?_⟩) ?_ ?_
        · intro w' 
          exact (by go_simp; done)
        rotate_left
        · simp only [Act.put, List.setIfInBounds_toArray, List.set_cons_zero, List.set_cons_succ, i64_w, i32_w]
          rfl
        refine pure_ (i := 3) (N := some 103) (v := ?_) (a' := ?_) #[true, true, true, true, false, false, false, false, false, false, false, false, false, false, false, false, false, false, false, false, false, false, false, false, false, false, false, false, false, false, false, false] rfl rfl (by kernel_rfl) (fun _ _ _ h => h) (Or.inl ⟨by rfl, ?_⟩) ?_ ?_
        rotate_left
        · intro w' 
          go_simp
          with_reducible rfl
        rotate_left
        · simp only [Act.put, List.setIfInBounds_toArray, List.set_cons_zero, List.set_cons_succ, i64_w, i32_w]
          rfl
        refine pure_ (i := 6) (N := some 106) (v := ?_) (a' := ?_) #[true, true, true, true, false, false, true, false, false, false, false, false, false, false, false, false, false, false, false, false, false, false, false, false, false, false, false, false, false, false, false, false] rfl rfl (by kernel_rfl) (fun _ _ _ h => h) (Or.inl ⟨by rfl, ?_⟩) ?_ ?_
        rotate_left
        · intro w' 
          go_simp
          with_reducible rfl
        rotate_left
        · simp only [Act.put, List.setIfInBounds_toArray, List.set_cons_zero, List.set_cons_succ, i64_w, i32_w]
          rfl
        refine one_ (i := 4) (N := some 104) #[true, true, true, true, true, false, true, false, false, false, false, false, false, false, false, false, false, false, false, false, false, false, false, false, false, false, false, false, false, false, false, false] rfl rfl (by kernel_rfl) (by decide) (fun K hK => ?_)
        refine goes_ Try.func19 (by kernel_rfl) rfl #[.pointer (some ⟨pc, 0, none⟩)] (by rfl) rfl rfl (by (try simp only [List.map_toArray, List.map_cons, List.map_nil]); first | done | rfl) ?_
        refine (disk_Image.part w wi _ pc n s HSi.out).mono ?_
        rintro e wj ⟨v, rfl, hs⟩
        obtain ⟨A7, c7, rfl, -, -⟩ := row_str hs 0 rfl
        have HSj := Aside0.mk hs
        refine ⟨_, rfl, ?_⟩
        clear hs HSi
        refine hK.out _ _ trivial (fun hHeld => ?_)
        clear hK K
        refine norm_ (a' := ?_) ?_ ?_
        rotate_left
        · show Act.put _ (some 104) _ = _
          simp only [Act.put, List.setIfInBounds_toArray, List.set_cons_zero, List.set_cons_succ, i64_w, i32_w]
          rfl
        refine X.more_ (fun w' => (convert 22 9 (.slice A7 (imageTo s n).length c7)).run Try.prog w' = .ok (.string (strOfNums (imageTo s n))) w') (row_conv HSj.out 0 rfl) (fun _ _ => trivial) (fun hHeld => ?_)
        refine take_ (i := 5) (N := some 105) (v := .string (strOfNums (imageTo s n))) (a' := ?_) #[true, true, true, true, true, true, true, false, false, false, false, false, false, false, false, false, false, false, false, false, false, false, false, false, false, false, false, false, false, false, false, false] rfl rfl (by kernel_rfl) (fun _ _ _ h => h) (Or.inl ⟨by rfl, ?_⟩) hHeld ?_ ?_
        · intro w' hs_
          exact conv_exec _ (by rfl) _ _ (by rfl) hs_
        rotate_left
        · simp only [Act.put, List.setIfInBounds_toArray, List.set_cons_zero, List.set_cons_succ, i64_w, i32_w]
          rfl
        refine one_ (i := 7) (N := some 107) #[true, true, true, true, true, true, true, true, false, false, false, false, false, false, false, false, false, false, false, false, false, false, false, false, false, false, false, false, false, false, false, false] rfl rfl (by kernel_rfl) (by decide) (fun K hK => ?_)
        refine goes_ Try.func30 (by kernel_rfl) rfl #[.pointer (some ⟨q, 0, none⟩)] (by rfl) rfl rfl (by (try simp only [List.map_toArray, List.map_cons, List.map_nil]); first | done | rfl) ?_
        refine (undercroftref02_Disk_Image.calls w wj _ q n s (HSj.out.perm [2, 1, 0] 3 (by decide) (by decide)) HPG.out.1 HPG.out.2).mono ?_
        rintro e wk ⟨v, rfl, hs⟩
        obtain ⟨A8, c8, rfl, -, -⟩ := row_str hs 0 rfl
        have hk := row_conv hs 0 rfl
        have hk7 := row_conv hs 3 rfl
        have HSk := Aside0.mk (hs.perm [1, 2, 0, 3] 4 (by decide) (by decide))
        refine ⟨_, rfl, ?_⟩
        clear hs HSj hHeld
        refine hK.out _ _ hk7 (fun hHeld => ?_)
        clear hK K
        refine norm_ (a' := ?_) ?_ ?_
        rotate_left
        · show Act.put _ (some 107) _ = _
          simp only [Act.put, List.setIfInBounds_toArray, List.set_cons_zero, List.set_cons_succ, i64_w, i32_w]
          rfl
        refine one_ (i := 8) (N := some 108) #[true, true, true, true, true, true, true, true, true, false, false, false, false, false, false, false, false, false, false, false, false, false, false, false, false, false, false, false, false, false, false, false] rfl rfl (by kernel_rfl) (by decide) (fun K hK => ?_)
        refine X.val_ (by rfl) rfl (conv_exec _ (by rfl) _ _ (by rfl) hk) ?_
        refine hK.out _ _ hk7 (fun hHeld => ?_)
        clear hK K
        refine norm_ (a' := ?_) ?_ ?_
        rotate_left
        · show Act.put _ (some 108) _ = _
          simp only [Act.put, List.setIfInBounds_toArray, List.set_cons_zero, List.set_cons_succ, i64_w, i32_w]
          rfl
        refine pure_ (i := 9) (N := some 109) (v := .bool false) (a' := ?_) #[true, true, true, true, true, true, true, true, true, true, false, false, false, false, false, false, false, false, false, false, false, false, false, false, false, false, false, false, false, false, false, false] rfl rfl (by kernel_rfl) (fun _ _ _ h => h) (Or.inl ⟨by rfl, ?_⟩) ?_ ?_
        · intro w' 
          exact (by go_simp; done)
        rotate_left
        · simp only [Act.put, List.setIfInBounds_toArray, List.set_cons_zero, List.set_cons_succ, i64_w, i32_w]
          rfl
        refine pure_ (i := 10) (N := some 110) (v := .bool false) (a' := ?_) #[true, true, true, true, true, true, true, true, true, true, true, false, false, false, false, false, false, false, false, false, false, false, false, false, false, false, false, false, false, false, false, false] rfl rfl (by kernel_rfl) (fun _ _ _ h => h) (Or.inl ⟨by rfl, ?_⟩) ?_ ?_
        · intro w' 
          exact (by go_simp; done)
        rotate_left
        · simp only [Act.put, List.setIfInBounds_toArray, List.set_cons_zero, List.set_cons_succ, i64_w, i32_w]
          rfl
        refine pure_ (i := 11) (N := some 111) (v := .bool false) (a' := ?_) #[true, true, true, true, true, true, true, true, true, true, true, true, false, false, false, false, false, false, false, false, false, false, false, false, false, false, false, false, false, false, false, false] rfl rfl (by kernel_rfl) (fun _ _ _ h => h) (Or.inl ⟨by rfl, ?_⟩) ?_ ?_
        · intro w' 
          exact (by go_simp; done)
        rotate_left
        · simp only [Act.put, List.setIfInBounds_toArray, List.set_cons_zero, List.set_cons_succ, i64_w, i32_w]
          rfl
        refine pure_ (i := 12) (N := some 112) (v := ?_) (a' := ?_) #[true, true, true, true, true, true, true, true, true, true, true, true, true, false, false, false, false, false, false, false, false, false, false, false, false, false, false, false, false, false, false, false] rfl rfl (by kernel_rfl) (fun _ _ _ h => h) (Or.inl ⟨by rfl, ?_⟩) ?_ ?_
        rotate_left
        · intro w' 
          go_simp
          with_reducible rfl
        rotate_left
        · simp only [Act.put, List.setIfInBounds_toArray, List.set_cons_zero, List.set_cons_succ, i64_w, i32_w]
          rfl
        obtain ⟨v0, v1, v2, hokr, hs2⟩ := HSk.out.rdisk
        have HOKr := Aside0.mk hokr
        obtain ⟨A0_, c0_, rfl, -, -⟩ := row_str hs2 1 rfl
        obtain ⟨A1_, c1_, rfl, -, -⟩ := hs2.wform 2 rfl
        have HSm := Aside0.mk hs2
        clear hs2 hokr HSk
        refine X.more_ (fun w' => (convert 22 9 (.slice A7 (imageTo s n).length c7)).run Try.prog w' = .ok (.string (strOfNums (imageTo s n))) w' ∧ w'.cell? ⟨q, 0, none⟩ = some (.slice A0_ s.bytes.length c0_) ∧ w'.cell? ⟨q, 1, none⟩ = some (.slice A1_ s.pend.length c1_) ∧ (convert 22 9 (.slice A0_ s.bytes.length c0_)).run Try.prog w' = .ok (.string (strOfNums s.bytes)) w') ⟨hk7, (HSm.out.boxed 0 rfl).cell 0 _ rfl, (HSm.out.boxed 0 rfl).cell 1 _ rfl, row_conv HSm.out 1 rfl⟩ (fun _ h => h.1) (fun hHeld => ?_)
        refine pure_ (i := 15) (N := some 115) (v := ?_) (a' := ?_) #[true, true, true, true, true, true, true, true, true, true, true, true, true, false, false, true, false, false, false, false, false, false, false, false, false, false, false, false, false, false, false, false] rfl rfl (by kernel_rfl) (fun _ _ _ h => h) (Or.inl ⟨by rfl, ?_⟩) ?_ ?_
        rotate_left
        · intro w' 
          go_simp
          with_reducible rfl
        rotate_left
        · simp only [Act.put, List.setIfInBounds_toArray, List.set_cons_zero, List.set_cons_succ, i64_w, i32_w]
          rfl
        refine pure_ (i := 16) (N := some 116) (v := ?_) (a' := ?_) #[true, true, true, true, true, true, true, true, true, true, true, true, true, false, false, true, true, false, false, false, false, false, false, false, false, false, false, false, false, false, false, false] rfl rfl (by kernel_rfl) (fun _ _ _ h => h) (Or.inl ⟨by rfl, ?_⟩) ?_ ?_
        rotate_left
        · intro w' 
          go_simp
          with_reducible rfl
        rotate_left
        · simp only [Act.put, List.setIfInBounds_toArray, List.set_cons_zero, List.set_cons_succ, i64_w, i32_w]
          rfl
        refine pure_ (i := 17) (N := some 117) (v := ?_) (a' := ?_) #[true, true, true, true, true, true, true, true, true, true, true, true, true, false, false, true, true, true, false, false, false, false, false, false, false, false, false, false, false, false, false, false] rfl rfl (by kernel_rfl) (fun _ _ _ h => h) (Or.inl ⟨by rfl, ?_⟩) ?_ ?_
        rotate_left
        · intro w' 
          go_simp
          with_reducible rfl
        rotate_left
        · simp only [Act.put, List.setIfInBounds_toArray, List.set_cons_zero, List.set_cons_succ, i64_w, i32_w]
          rfl
        refine take_ (i := 18) (N := some 118) (v := .slice A0_ s.bytes.length c0_) (a' := ?_) #[true, true, true, true, true, true, true, true, true, true, true, true, true, false, false, true, true, true, true, false, false, false, false, false, false, false, false, false, false, false, false, false] rfl rfl (by kernel_rfl) (fun _ _ _ h => h) (Or.inl ⟨by rfl, ?_⟩) hHeld ?_ ?_
        · intro w' hs_
          obtain ⟨hs7, hsc0, hsc1, hsv⟩ := hs_
          exact (by go_simp; done)
        rotate_left
        · simp only [Act.put, List.setIfInBounds_toArray, List.set_cons_zero, List.set_cons_succ, i64_w, i32_w]
          rfl
        refine take_ (i := 19) (N := some 119) (v := .string (strOfNums s.bytes)) (a' := ?_) #[true, true, true, true, true, true, true, true, true, true, true, true, true, false, false, true, true, true, true, true, false, false, false, false, false, false, false, false, false, false, false, false] rfl rfl (by kernel_rfl) (fun _ _ _ h => h) (Or.inl ⟨by rfl, ?_⟩) hHeld ?_ ?_
        · intro w' hs_
          obtain ⟨hs7, hsc0, hsc1, hsv⟩ := hs_
          exact conv_exec _ (by rfl) _ _ (by rfl) hsv
        rotate_left
        · simp only [Act.put, List.setIfInBounds_toArray, List.set_cons_zero, List.set_cons_succ, i64_w, i32_w]
          rfl
        refine one_ (i := 13) (N := some 113) #[true, true, true, true, true, true, true, true, true, true, true, true, true, true, false, true, true, true, true, true, false, false, false, false, false, false, false, false, false, false, false, false] rfl rfl (by kernel_rfl) (by decide) (fun K hK => ?_)
        refine goes_ Try.func16 (by kernel_rfl) rfl #[.pointer (some ⟨pc, 0, none⟩)] (by rfl) rfl rfl (by (try simp only [List.map_toArray, List.map_cons, List.map_nil]); first | done | rfl) ?_
        refine (disk_Stable.part w wk _ pc n s (HSm.out.perm [4, 0, 1, 2, 3] 5 (by decide) (by decide))).mono ?_
        rintro e wn ⟨v, rfl, hs⟩
        obtain ⟨A9, c9, rfl, -, -⟩ := row_str hs 0 rfl
        have hk := row_conv hs 0 rfl
        have HSn := Aside0.mk (hs.perm [1, 2, 3, 4, 5] 6 (by decide) (by decide))
        refine ⟨_, rfl, ?_⟩
        clear hs HSm hHeld hk7
        refine hK.out _ _ ⟨row_conv HSn.out 6 rfl, (HSn.out.boxed 1 rfl).cell 0 _ rfl, (HSn.out.boxed 1 rfl).cell 1 _ rfl, row_conv HSn.out 2 rfl⟩ (fun hHeld => ?_)
        clear hK K
        refine norm_ (a' := ?_) ?_ ?_
        rotate_left
        · show Act.put _ (some 113) _ = _
          simp only [Act.put, List.setIfInBounds_toArray, List.set_cons_zero, List.set_cons_succ, i64_w, i32_w]
          rfl
        refine one_ (i := 14) (N := some 114) #[true, true, true, true, true, true, true, true, true, true, true, true, true, true, true, true, true, true, true, true, false, false, false, false, false, false, false, false, false, false, false, false] rfl rfl (by kernel_rfl) (by decide) (fun K hK => ?_)
        refine X.val_ (by rfl) rfl (conv_exec _ (by rfl) _ _ (by rfl) hk) ?_
        refine hK.out _ _ ⟨row_conv HSn.out 6 rfl, (HSn.out.boxed 1 rfl).cell 0 _ rfl, (HSn.out.boxed 1 rfl).cell 1 _ rfl, row_conv HSn.out 2 rfl⟩ (fun hHeld => ?_)
        clear hK K
        refine norm_ (a' := ?_) ?_ ?_
        rotate_left
        · show Act.put _ (some 114) _ = _
          simp only [Act.put, List.setIfInBounds_toArray, List.set_cons_zero, List.set_cons_succ, i64_w, i32_w]
          rfl
        refine pure_ (i := 20) (N := some 120) (v := .bool false) (a' := ?_) #[true, true, true, true, true, true, true, true, true, true, true, true, true, true, true, true, true, true, true, true, true, false, false, false, false, false, false, false, false, false, false, false] rfl rfl (by kernel_rfl) (fun _ _ _ h => h) (Or.inl ⟨by rfl, ?_⟩) ?_ ?_
        · intro w' 
          exact (by go_simp; done)
        rotate_left
        · simp only [Act.put, List.setIfInBounds_toArray, List.set_cons_zero, List.set_cons_succ, i64_w, i32_w]
          rfl
        refine pure_ (i := 21) (N := some 121) (v := .bool false) (a' := ?_) #[true, true, true, true, true, true, true, true, true, true, true, true, true, true, true, true, true, true, true, true, true, true, false, false, false, false, false, false, false, false, false, false] rfl rfl (by kernel_rfl) (fun _ _ _ h => h) (Or.inl ⟨by rfl, ?_⟩) ?_ ?_
        · intro w' 
          exact (by go_simp; done)
        rotate_left
        · simp only [Act.put, List.setIfInBounds_toArray, List.set_cons_zero, List.set_cons_succ, i64_w, i32_w]
          rfl
        refine pure_ (i := 22) (N := some 122) (v := .bool false) (a' := ?_) #[true, true, true, true, true, true, true, true, true, true, true, true, true, true, true, true, true, true, true, true, true, true, true, false, false, false, false, false, false, false, false, false] rfl rfl (by kernel_rfl) (fun _ _ _ h => h) (Or.inl ⟨by rfl, ?_⟩) ?_ ?_
        · intro w' 
          exact (by go_simp; done)
        rotate_left
        · simp only [Act.put, List.setIfInBounds_toArray, List.set_cons_zero, List.set_cons_succ, i64_w, i32_w]
          rfl
        refine pure_ (i := 23) (N := some 123) (v := ?_) (a' := ?_) #[true, true, true, true, true, true, true, true, true, true, true, true, true, true, true, true, true, true, true, true, true, true, true, true, false, false, false, false, false, false, false, false] rfl rfl (by kernel_rfl) (fun _ _ _ h => h) (Or.inl ⟨by rfl, ?_⟩) ?_ ?_
        rotate_left
        · intro w' 
          go_simp
          with_reducible rfl
        rotate_left
        · simp only [Act.put, List.setIfInBounds_toArray, List.set_cons_zero, List.set_cons_succ, i64_w, i32_w]
          rfl
        refine pure_ (i := 25) (N := some 125) (v := ?_) (a' := ?_) #[true, true, true, true, true, true, true, true, true, true, true, true, true, true, true, true, true, true, true, true, true, true, true, true, false, true, false, false, false, false, false, false] rfl rfl (by kernel_rfl) (fun _ _ _ h => h) (Or.inl ⟨by rfl, ?_⟩) ?_ ?_
        rotate_left
        · intro w' 
          go_simp
          with_reducible rfl
        rotate_left
        · simp only [Act.put, List.setIfInBounds_toArray, List.set_cons_zero, List.set_cons_succ, i64_w, i32_w]
          rfl
        refine pure_ (i := 26) (N := some 126) (v := ?_) (a' := ?_) #[true, true, true, true, true, true, true, true, true, true, true, true, true, true, true, true, true, true, true, true, true, true, true, true, false, true, true, false, false, false, false, false] rfl rfl (by kernel_rfl) (fun _ _ _ h => h) (Or.inl ⟨by rfl, ?_⟩) ?_ ?_
        rotate_left
        · intro w' 
          go_simp
          with_reducible rfl
        rotate_left
        · simp only [Act.put, List.setIfInBounds_toArray, List.set_cons_zero, List.set_cons_succ, i64_w, i32_w]
          rfl
        refine pure_ (i := 27) (N := some 127) (v := ?_) (a' := ?_) #[true, true, true, true, true, true, true, true, true, true, true, true, true, true, true, true, true, true, true, true, true, true, true, true, false, true, true, true, false, false, false, false] rfl rfl (by kernel_rfl) (fun _ _ _ h => h) (Or.inl ⟨by rfl, ?_⟩) ?_ ?_
        rotate_left
        · intro w' 
          go_simp
          with_reducible rfl
        rotate_left
        · simp only [Act.put, List.setIfInBounds_toArray, List.set_cons_zero, List.set_cons_succ, i64_w, i32_w]
          rfl
        refine take_ (i := 28) (N := some 128) (v := .slice A1_ s.pend.length c1_) (a' := ?_) #[true, true, true, true, true, true, true, true, true, true, true, true, true, true, true, true, true, true, true, true, true, true, true, true, false, true, true, true, true, false, false, false] rfl rfl (by kernel_rfl) (fun _ _ _ h => h) (Or.inl ⟨by rfl, ?_⟩) hHeld ?_ ?_
        · intro w' hs_
          obtain ⟨hs7, hsc0, hsc1, hsv⟩ := hs_
          exact (by go_simp; done)
        rotate_left
        · simp only [Act.put, List.setIfInBounds_toArray, List.set_cons_zero, List.set_cons_succ, i64_w, i32_w]
          rfl
        refine pure_ (i := 29) (N := some 129) (v := .int .i64 (s.pend.length : Int)) (a' := ?_) #[true, true, true, true, true, true, true, true, true, true, true, true, true, true, true, true, true, true, true, true, true, true, true, true, false, true, true, true, true, true, false, false] rfl rfl (by kernel_rfl) (fun _ _ _ h => h) (Or.inl ⟨by rfl, ?_⟩) ?_ ?_
        · intro w' 
          exact (by go_simp; done)
        rotate_left
        · simp only [Act.put, List.setIfInBounds_toArray, List.set_cons_zero, List.set_cons_succ, i64_w, i32_w]
          rfl
        refine one_ (i := 24) (N := some 124) #[true, true, true, true, true, true, true, true, true, true, true, true, true, true, true, true, true, true, true, true, true, true, true, true, true, true, true, true, true, true, false, false] rfl rfl (by kernel_rfl) (by decide) (fun K hK => ?_)
        refine goes_ Try.func20 (by kernel_rfl) rfl #[.pointer (some ⟨pc, 0, none⟩)] (by rfl) rfl rfl (by (try simp only [List.map_toArray, List.map_cons, List.map_nil]); first | done | rfl) ?_
        refine (disk_Pending.part w wn _ pc n s HSn.out).mono ?_
        rintro e w' ⟨rfl, rfl⟩
        refine ⟨_, rfl, ?_⟩
        refine hK.out _ _ hHeld (fun hHeld => ?_)
        clear hK K
        refine norm_ (a' := ?_) ?_ ?_
        rotate_left
        · show Act.put _ (some 124) _ = _
          simp only [Act.put, List.setIfInBounds_toArray, List.set_cons_zero, List.set_cons_succ, i64_w, i32_w]
          rfl
        refine pure_ (i := 30) (N := some 130) (v := .bool false) (a' := ?_) #[true, true, true, true, true, true, true, true, true, true, true, true, true, true, true, true, true, true, true, true, true, true, true, true, true, true, true, true, true, true, true, false] rfl rfl (by kernel_rfl) (fun _ _ _ h => h) (Or.inl ⟨by rfl, ?_⟩) ?_ ?_
        · intro w' 
          exact (by go_simp; done)
        rotate_left
        · simp only [Act.put, List.setIfInBounds_toArray, List.set_cons_zero, List.set_cons_succ, i64_w, i32_w]
          rfl
        refine pure_ (i := 31) (N := some 131) (v := .bool false) (a' := ?_) #[true, true, true, true, true, true, true, true, true, true, true, true, true, true, true, true, true, true, true, true, true, true, true, true, true, true, true, true, true, true, true, true] rfl rfl (by kernel_rfl) (fun _ _ _ h => h) (Or.inl ⟨by rfl, ?_⟩) ?_ ?_
        · intro w' 
          exact (by go_simp; done)
        rotate_left
        · simp only [Act.put, List.setIfInBounds_toArray, List.set_cons_zero, List.set_cons_succ, i64_w, i32_w]
          rfl
        refine done_ (by kernel_rfl) ?_
        have HS6 : Aside0 (X.Lies w wn [.disk pc n s, .disk p n s, .rdisk q n s]) := ⟨(X.Lies.mkRdisk HOKr.out (HSn.out.perm [1, 2, 3, 4, 0, 7] 8 (by decide) (by decide))).perm [1, 2, 0] 3 (by decide) (by decide)⟩
        clear HSn hHeld HOKr
        go_wp2_with fail
        have HNIL : (Kd.int .u8).C wn none ([] : List Int).length [] := Kd.C_nil _ _
        refine (data_part w _ 0 0 9 false none 0 [] wn HS6.out HNIL (Nat.le_refl 0)).mono ?_
        rintro e w6 ⟨gd, cd, rfl, hcd, hs⟩
        have HS7 := Aside0.mk (hs.perm [1, 0, 2, 3] 4 (by decide) (by decide))
        have HCD := Aside0.mk hcd
        clear hs hcd HS6 HNIL
        go_wp2_with fail
        refine (write_data w w6 _ pc n s ((0 : Nat) : Int) gd cd 9 false HS7.out HCD.out (by have := HPG0.out; omega)).mono ?_
        rintro e w7 ⟨rfl, hs⟩
        have HPP := Aside0.mk (put_pend s n ((0 : Nat) : Int) (dataL 9 (dataN false)))
        obtain ⟨s1, hs1⟩ : ∃ s1, s1 = put s n ((0 : Nat) : Int) (dataL 9 (dataN false)) := ⟨_, rfl⟩
        rw [← hs1] at hs HPP
        have HS8 := Aside0.mk (hs.perm [0, 2, 3] 4 (by decide) (by decide))
        clear hs hs1 HS7 HCD
        go_wp2_with fail
        refine (disk_Flush.part w w7 _ pc n s1 HS8.out).mono ?_
        rintro e w8 ⟨rfl, hs⟩
        have HS9 := Aside0.mk (hs.alloc #[.int .u8 255] 5)
        clear hs HS8
        go_wp2_with fail
        refine (disk_Crash.part w _ _ pc n s1.flush (some ⟨w8.heap.size, 0, none⟩) 1 [255] (HS9.out.perm [1, 0, 2, 3] 4 (by decide) (by decide)) (fun w' h => X.C_blk (h.boxed 0 rfl) rfl (by decide)) (Nat.le_refl 1) (by have := X.DS.flush_pend s1; have := HPP.out; have := HPG0.out; omega)).mono ?_
        rintro e w5 ⟨rfl, hs⟩
        have HS5 : Aside0 (X.Lies w w5 [.disk p n s, .rdisk q n s]) := ⟨hs.perm [2, 3] 4 (by decide) (by decide)⟩
        clear hs HS9 HPP
        go_wp2_with fail
        refine start_ (n := 36) (S := (fun _ => True)) (ds := []) #[false, false, false, false, false, false, false, false, false, false, false, false, false, false, false, false, false, false, false, false, false, false, false, false, false, false, false, false, false, false, false, false, false, false, false, false] (by kernel_rfl) rfl rfl trivial (fun hHeld => ?_)
        have HSi := Aside0.mk (HS5.out.drew)
        generalize World.drew _ = wi at *
        clear HS5
        refine pure_ (i := 0) (N := some 141) (v := ?_) (a' := ?_) #[true, false, false, false, false, false, false, false, false, false, false, false, false, false, false, false, false, false, false, false, false, false, false, false, false, false, false, false, false, false, false, false, false, false, false, false] rfl rfl (by kernel_rfl) (fun _ _ _ h => h) (Or.inl ⟨by rfl, ?_⟩) ?_ ?_
        rotate_left
        · intro w' 
          go_simp
          with_reducible rfl
        rotate_left
        · simp only [Act.put, List.setIfInBounds_toArray, List.set_cons_zero, List.set_cons_succ, i64_w, i32_w]
          rfl
        refine pure_ (i := 2) (N := some 143) (v := ?_) (a' := ?_) #[true, false, true, false, false, false, false, false, false, false, false, false, false, false, false, false, false, false, false, false, false, false, false, false, false, false, false, false, false, false, false, false, false, false, false, false] rfl rfl (by kernel_rfl) (fun _ _ _ h => h) (Or.inl ⟨by rfl, ?_⟩) ?_ ?_
        rotate_left
        · intro w' 
          go_simp
          with_reducible rfl
        rotate_left
        · simp only [Act.put, List.setIfInBounds_toArray, List.set_cons_zero, List.set_cons_succ, i64_w, i32_w]
          rfl
        refine one_ (i := 1) (N := some 142) #[true, true, true, false, false, false, false, false, false, false, false, false, false, false, false, false, false, false, false, false, false, false, false, false, false, false, false, false, false, false, false, false, false, false, false, false] rfl rfl (by kernel_rfl) (by decide) (fun K hK => ?_)
        refine goes_ Try.func31 (by kernel_rfl) rfl #[.pointer (some ⟨p, 0, none⟩)] (by rfl) rfl rfl (by (try simp only [List.map_toArray, List.map_cons, List.map_nil]); first | done | rfl) ?_
        refine (disk_Size.part w wi _ p n s HSi.out).mono ?_
        rintro e w' ⟨rfl, rfl⟩
        refine ⟨_, rfl, ?_⟩
        refine hK.out _ _ trivial (fun hHeld => ?_)
        clear hK K
        refine norm_ (a' := ?_) ?_ ?_
        rotate_left
        · show Act.put _ (some 142) _ = _
          simp only [Act.put, List.setIfInBounds_toArray, List.set_cons_zero, List.set_cons_succ, i64_w, i32_w]
          rfl
        refine one_ (i := 3) (N := some 144) #[true, true, true, true, false, false, false, false, false, false, false, false, false, false, false, false, false, false, false, false, false, false, false, false, false, false, false, false, false, false, false, false, false, false, false, false] rfl rfl (by kernel_rfl) (by decide) (fun K hK => ?_)
        refine goes_ Try.func32 (by kernel_rfl) rfl #[.pointer (some ⟨q, 0, none⟩)] (by rfl) rfl rfl (by (try simp only [List.map_toArray, List.map_cons, List.map_nil]); first | done | rfl) ?_
        refine (undercroftref02_Disk_Size.calls w wi _ q n s (HSi.out.perm [1, 0] 2 (by decide) (by decide))).mono ?_
        rintro e w' ⟨rfl, rfl⟩
        refine ⟨_, rfl, ?_⟩
        refine hK.out _ _ trivial (fun hHeld => ?_)
        clear hK K
        refine norm_ (a' := ?_) ?_ ?_
        rotate_left
        · show Act.put _ (some 144) _ = _
          simp only [Act.put, List.setIfInBounds_toArray, List.set_cons_zero, List.set_cons_succ, i64_w, i32_w]
          rfl
        refine pure_ (i := 4) (N := some 145) (v := .bool true) (a' := ?_) #[true, true, true, true, true, false, false, false, false, false, false, false, false, false, false, false, false, false, false, false, false, false, false, false, false, false, false, false, false, false, false, false, false, false, false, false] rfl rfl (by kernel_rfl) (fun _ _ _ h => h) (Or.inl ⟨by rfl, ?_⟩) ?_ ?_
        · intro w' 
          exact (by go_simp; done)
        rotate_left
        · simp only [Act.put, List.setIfInBounds_toArray, List.set_cons_zero, List.set_cons_succ, i64_w, i32_w]
          rfl
        refine pure_ (i := 5) (N := some 146) (v := .bool true) (a' := ?_) #[true, true, true, true, true, true, false, false, false, false, false, false, false, false, false, false, false, false, false, false, false, false, false, false, false, false, false, false, false, false, false, false, false, false, false, false] rfl rfl (by kernel_rfl) (fun _ _ _ h => h) (Or.inl ⟨by rfl, ?_⟩) ?_ ?_
        · intro w' 
          exact (by go_simp; done)
        rotate_left
        · simp only [Act.put, List.setIfInBounds_toArray, List.set_cons_zero, List.set_cons_succ, i64_w, i32_w]
          rfl
        refine pure_ (i := 6) (N := some 147) (v := ?_) (a' := ?_) #[true, true, true, true, true, true, true, false, false, false, false, false, false, false, false, false, false, false, false, false, false, false, false, false, false, false, false, false, false, false, false, false, false, false, false, false] rfl rfl (by kernel_rfl) (fun _ _ _ h => h) (Or.inl ⟨by rfl, ?_⟩) ?_ ?_
        rotate_left
        · intro w' 
          go_simp
          with_reducible rfl
        rotate_left
        · simp only [Act.put, List.setIfInBounds_toArray, List.set_cons_zero, List.set_cons_succ, i64_w, i32_w]
          rfl
        refine pure_ (i := 9) (N := some 150) (v := ?_) (a' := ?_) #[true, true, true, true, true, true, true, false, false, true, false, false, false, false, false, false, false, false, false, false, false, false, false, false, false, false, false, false, false, false, false, false, false, false, false, false] rfl rfl (by kernel_rfl) (fun _ _ _ h => h) (Or.inl ⟨by rfl, ?_⟩) ?_ ?_
        rotate_left
        · intro w' 
          go_simp
          with_reducible rfl
        rotate_left
        · simp only [Act.put, List.setIfInBounds_toArray, List.set_cons_zero, List.set_cons_succ, i64_w, i32_w]
          rfl
        refine one_ (i := 7) (N := some 148) #[true, true, true, true, true, true, true, true, false, true, false, false, false, false, false, false, false, false, false, false, false, false, false, false, false, false, false, false, false, false, false, false, false, false, false, false] rfl rfl (by kernel_rfl) (by decide) (fun K hK => ?_)
        refine goes_ Try.func19 (by kernel_rfl) rfl #[.pointer (some ⟨p, 0, none⟩)] (by rfl) rfl rfl (by (try simp only [List.map_toArray, List.map_cons, List.map_nil]); first | done | rfl) ?_
        refine (disk_Image.part w wi _ p n s HSi.out).mono ?_
        rintro e wj ⟨v, rfl, hs⟩
        obtain ⟨A7, c7, rfl, -, -⟩ := row_str hs 0 rfl
        have HSj := Aside0.mk hs
        refine ⟨_, rfl, ?_⟩
        clear hs HSi
        refine hK.out _ _ trivial (fun hHeld => ?_)
        clear hK K
        refine norm_ (a' := ?_) ?_ ?_
        rotate_left
        · show Act.put _ (some 148) _ = _
          simp only [Act.put, List.setIfInBounds_toArray, List.set_cons_zero, List.set_cons_succ, i64_w, i32_w]
          rfl
        refine X.more_ (fun w' => (convert 22 9 (.slice A7 (imageTo s n).length c7)).run Try.prog w' = .ok (.string (strOfNums (imageTo s n))) w') (row_conv HSj.out 0 rfl) (fun _ _ => trivial) (fun hHeld => ?_)
        refine take_ (i := 8) (N := some 149) (v := .string (strOfNums (imageTo s n))) (a' := ?_) #[true, true, true, true, true, true, true, true, true, true, false, false, false, false, false, false, false, false, false, false, false, false, false, false, false, false, false, false, false, false, false, false, false, false, false, false] rfl rfl (by kernel_rfl) (fun _ _ _ h => h) (Or.inl ⟨by rfl, ?_⟩) hHeld ?_ ?_
        · intro w' hs_
          exact conv_exec _ (by rfl) _ _ (by rfl) hs_
        rotate_left
        · simp only [Act.put, List.setIfInBounds_toArray, List.set_cons_zero, List.set_cons_succ, i64_w, i32_w]
          rfl
        refine one_ (i := 10) (N := some 151) #[true, true, true, true, true, true, true, true, true, true, true, false, false, false, false, false, false, false, false, false, false, false, false, false, false, false, false, false, false, false, false, false, false, false, false, false] rfl rfl (by kernel_rfl) (by decide) (fun K hK => ?_)
        refine goes_ Try.func30 (by kernel_rfl) rfl #[.pointer (some ⟨q, 0, none⟩)] (by rfl) rfl rfl (by (try simp only [List.map_toArray, List.map_cons, List.map_nil]); first | done | rfl) ?_
        refine (undercroftref02_Disk_Image.calls w wj _ q n s (HSj.out.perm [2, 1, 0] 3 (by decide) (by decide)) HPG.out.1 HPG.out.2).mono ?_
        rintro e wk ⟨v, rfl, hs⟩
        obtain ⟨A8, c8, rfl, -, -⟩ := row_str hs 0 rfl
        have hk := row_conv hs 0 rfl
        have hk7 := row_conv hs 3 rfl
        have HSk := Aside0.mk (hs.perm [1, 2, 0, 3] 4 (by decide) (by decide))
        refine ⟨_, rfl, ?_⟩
        clear hs HSj hHeld
        refine hK.out _ _ hk7 (fun hHeld => ?_)
        clear hK K
        refine norm_ (a' := ?_) ?_ ?_
        rotate_left
        · show Act.put _ (some 151) _ = _
          simp only [Act.put, List.setIfInBounds_toArray, List.set_cons_zero, List.set_cons_succ, i64_w, i32_w]
          rfl
        refine one_ (i := 11) (N := some 152) #[true, true, true, true, true, true, true, true, true, true, true, true, false, false, false, false, false, false, false, false, false, false, false, false, false, false, false, false, false, false, false, false, false, false, false, false] rfl rfl (by kernel_rfl) (by decide) (fun K hK => ?_)
        refine X.val_ (by rfl) rfl (conv_exec _ (by rfl) _ _ (by rfl) hk) ?_
        refine hK.out _ _ hk7 (fun hHeld => ?_)
        clear hK K
        refine norm_ (a' := ?_) ?_ ?_
        rotate_left
        · show Act.put _ (some 152) _ = _
          simp only [Act.put, List.setIfInBounds_toArray, List.set_cons_zero, List.set_cons_succ, i64_w, i32_w]
          rfl
        refine pure_ (i := 12) (N := some 153) (v := .bool true) (a' := ?_) #[true, true, true, true, true, true, true, true, true, true, true, true, true, false, false, false, false, false, false, false, false, false, false, false, false, false, false, false, false, false, false, false, false, false, false, false] rfl rfl (by kernel_rfl) (fun _ _ _ h => h) (Or.inl ⟨by rfl, ?_⟩) ?_ ?_
        · intro w' 
          exact (by go_simp; done)
        rotate_left
        · simp only [Act.put, List.setIfInBounds_toArray, List.set_cons_zero, List.set_cons_succ, i64_w, i32_w]
          rfl
        refine pure_ (i := 13) (N := some 154) (v := .bool true) (a' := ?_) #[true, true, true, true, true, true, true, true, true, true, true, true, true, true, false, false, false, false, false, false, false, false, false, false, false, false, false, false, false, false, false, false, false, false, false, false] rfl rfl (by kernel_rfl) (fun _ _ _ h => h) (Or.inl ⟨by rfl, ?_⟩) ?_ ?_
        · intro w' 
          exact (by go_simp; done)
        rotate_left
        · simp only [Act.put, List.setIfInBounds_toArray, List.set_cons_zero, List.set_cons_succ, i64_w, i32_w]
          rfl
        refine pure_ (i := 14) (N := some 155) (v := .bool true) (a' := ?_) #[true, true, true, true, true, true, true, true, true, true, true, true, true, true, true, false, false, false, false, false, false, false, false, false, false, false, false, false, false, false, false, false, false, false, false, false] rfl rfl (by kernel_rfl) (fun _ _ _ h => h) (Or.inl ⟨by rfl, ?_⟩) ?_ ?_
        · intro w' 
          exact (by go_simp; done)
        rotate_left
        · simp only [Act.put, List.setIfInBounds_toArray, List.set_cons_zero, List.set_cons_succ, i64_w, i32_w]
          rfl
        refine pure_ (i := 15) (N := some 156) (v := ?_) (a' := ?_) #[true, true, true, true, true, true, true, true, true, true, true, true, true, true, true, true, false, false, false, false, false, false, false, false, false, false, false, false, false, false, false, false, false, false, false, false] rfl rfl (by kernel_rfl) (fun _ _ _ h => h) (Or.inl ⟨by rfl, ?_⟩) ?_ ?_
        rotate_left
        · intro w' 
          go_simp
          with_reducible rfl
        rotate_left
        · simp only [Act.put, List.setIfInBounds_toArray, List.set_cons_zero, List.set_cons_succ, i64_w, i32_w]
          rfl
        obtain ⟨v0, v1, v2, hokr, hs2⟩ := HSk.out.rdisk
        have HOKr := Aside0.mk hokr
        obtain ⟨A0_, c0_, rfl, -, -⟩ := row_str hs2 1 rfl
        obtain ⟨A1_, c1_, rfl, -, -⟩ := hs2.wform 2 rfl
        have HSm := Aside0.mk hs2
        clear hs2 hokr HSk
        refine X.more_ (fun w' => (convert 22 9 (.slice A7 (imageTo s n).length c7)).run Try.prog w' = .ok (.string (strOfNums (imageTo s n))) w' ∧ w'.cell? ⟨q, 0, none⟩ = some (.slice A0_ s.bytes.length c0_) ∧ w'.cell? ⟨q, 1, none⟩ = some (.slice A1_ s.pend.length c1_) ∧ (convert 22 9 (.slice A0_ s.bytes.length c0_)).run Try.prog w' = .ok (.string (strOfNums s.bytes)) w') ⟨hk7, (HSm.out.boxed 0 rfl).cell 0 _ rfl, (HSm.out.boxed 0 rfl).cell 1 _ rfl, row_conv HSm.out 1 rfl⟩ (fun _ h => h.1) (fun hHeld => ?_)
        refine pure_ (i := 18) (N := some 159) (v := ?_) (a' := ?_) #[true, true, true, true, true, true, true, true, true, true, true, true, true, true, true, true, false, false, true, false, false, false, false, false, false, false, false, false, false, false, false, false, false, false, false, false] rfl rfl (by kernel_rfl) (fun _ _ _ h => h) (Or.inl ⟨by rfl, ?_⟩) ?_ ?_
        rotate_left
        · intro w' 
          go_simp
          with_reducible rfl
        rotate_left
        · simp only [Act.put, List.setIfInBounds_toArray, List.set_cons_zero, List.set_cons_succ, i64_w, i32_w]
          rfl
        refine pure_ (i := 19) (N := some 160) (v := ?_) (a' := ?_) #[true, true, true, true, true, true, true, true, true, true, true, true, true, true, true, true, false, false, true, true, false, false, false, false, false, false, false, false, false, false, false, false, false, false, false, false] rfl rfl (by kernel_rfl) (fun _ _ _ h => h) (Or.inl ⟨by rfl, ?_⟩) ?_ ?_
        rotate_left
        · intro w' 
          go_simp
          with_reducible rfl
        rotate_left
        · simp only [Act.put, List.setIfInBounds_toArray, List.set_cons_zero, List.set_cons_succ, i64_w, i32_w]
          rfl
        refine pure_ (i := 20) (N := some 161) (v := ?_) (a' := ?_) #[true, true, true, true, true, true, true, true, true, true, true, true, true, true, true, true, false, false, true, true, true, false, false, false, false, false, false, false, false, false, false, false, false, false, false, false] rfl rfl (by kernel_rfl) (fun _ _ _ h => h) (Or.inl ⟨by rfl, ?_⟩) ?_ ?_
        rotate_left
        · intro w' 
          go_simp
          with_reducible rfl
        rotate_left
        · simp only [Act.put, List.setIfInBounds_toArray, List.set_cons_zero, List.set_cons_succ, i64_w, i32_w]
          rfl
        refine take_ (i := 21) (N := some 162) (v := .slice A0_ s.bytes.length c0_) (a' := ?_) #[true, true, true, true, true, true, true, true, true, true, true, true, true, true, true, true, false, false, true, true, true, true, false, false, false, false, false, false, false, false, false, false, false, false, false, false] rfl rfl (by kernel_rfl) (fun _ _ _ h => h) (Or.inl ⟨by rfl, ?_⟩) hHeld ?_ ?_
        · intro w' hs_
          obtain ⟨hs7, hsc0, hsc1, hsv⟩ := hs_
          exact (by go_simp; done)
        rotate_left
        · simp only [Act.put, List.setIfInBounds_toArray, List.set_cons_zero, List.set_cons_succ, i64_w, i32_w]
          rfl
        refine take_ (i := 22) (N := some 163) (v := .string (strOfNums s.bytes)) (a' := ?_) #[true, true, true, true, true, true, true, true, true, true, true, true, true, true, true, true, false, false, true, true, true, true, true, false, false, false, false, false, false, false, false, false, false, false, false, false] rfl rfl (by kernel_rfl) (fun _ _ _ h => h) (Or.inl ⟨by rfl, ?_⟩) hHeld ?_ ?_
        · intro w' hs_
          obtain ⟨hs7, hsc0, hsc1, hsv⟩ := hs_
          exact conv_exec _ (by rfl) _ _ (by rfl) hsv
        rotate_left
        · simp only [Act.put, List.setIfInBounds_toArray, List.set_cons_zero, List.set_cons_succ, i64_w, i32_w]
          rfl
        refine one_ (i := 16) (N := some 157) #[true, true, true, true, true, true, true, true, true, true, true, true, true, true, true, true, true, false, true, true, true, true, true, false, false, false, false, false, false, false, false, false, false, false, false, false] rfl rfl (by kernel_rfl) (by decide) (fun K hK => ?_)
        refine goes_ Try.func16 (by kernel_rfl) rfl #[.pointer (some ⟨p, 0, none⟩)] (by rfl) rfl rfl (by (try simp only [List.map_toArray, List.map_cons, List.map_nil]); first | done | rfl) ?_
        refine (disk_Stable.part w wk _ p n s (HSm.out.perm [4, 0, 1, 2, 3] 5 (by decide) (by decide))).mono ?_
        rintro e wn ⟨v, rfl, hs⟩
        obtain ⟨A9, c9, rfl, -, -⟩ := row_str hs 0 rfl
        have hk := row_conv hs 0 rfl
        have HSn := Aside0.mk (hs.perm [1, 2, 3, 4, 5] 6 (by decide) (by decide))
        refine ⟨_, rfl, ?_⟩
        clear hs HSm hHeld hk7
        refine hK.out _ _ ⟨row_conv HSn.out 6 rfl, (HSn.out.boxed 1 rfl).cell 0 _ rfl, (HSn.out.boxed 1 rfl).cell 1 _ rfl, row_conv HSn.out 2 rfl⟩ (fun hHeld => ?_)
        clear hK K
        refine norm_ (a' := ?_) ?_ ?_
        rotate_left
        · show Act.put _ (some 157) _ = _
          simp only [Act.put, List.setIfInBounds_toArray, List.set_cons_zero, List.set_cons_succ, i64_w, i32_w]
          rfl
        refine one_ (i := 17) (N := some 158) #[true, true, true, true, true, true, true, true, true, true, true, true, true, true, true, true, true, true, true, true, true, true, true, false, false, false, false, false, false, false, false, false, false, false, false, false] rfl rfl (by kernel_rfl) (by decide) (fun K hK => ?_)
        refine X.val_ (by rfl) rfl (conv_exec _ (by rfl) _ _ (by rfl) hk) ?_
        refine hK.out _ _ ⟨row_conv HSn.out 6 rfl, (HSn.out.boxed 1 rfl).cell 0 _ rfl, (HSn.out.boxed 1 rfl).cell 1 _ rfl, row_conv HSn.out 2 rfl⟩ (fun hHeld => ?_)
        clear hK K
        refine norm_ (a' := ?_) ?_ ?_
        rotate_left
        · show Act.put _ (some 158) _ = _
          simp only [Act.put, List.setIfInBounds_toArray, List.set_cons_zero, List.set_cons_succ, i64_w, i32_w]
          rfl
        refine pure_ (i := 23) (N := some 164) (v := .bool true) (a' := ?_) #[true, true, true, true, true, true, true, true, true, true, true, true, true, true, true, true, true, true, true, true, true, true, true, true, false, false, false, false, false, false, false, false, false, false, false, false] rfl rfl (by kernel_rfl) (fun _ _ _ h => h) (Or.inl ⟨by rfl, ?_⟩) ?_ ?_
        · intro w' 
          exact (by go_simp; done)
        rotate_left
        · simp only [Act.put, List.setIfInBounds_toArray, List.set_cons_zero, List.set_cons_succ, i64_w, i32_w]
          rfl
        refine pure_ (i := 24) (N := some 165) (v := .bool true) (a' := ?_) #[true, true, true, true, true, true, true, true, true, true, true, true, true, true, true, true, true, true, true, true, true, true, true, true, true, false, false, false, false, false, false, false, false, false, false, false] rfl rfl (by kernel_rfl) (fun _ _ _ h => h) (Or.inl ⟨by rfl, ?_⟩) ?_ ?_
        · intro w' 
          exact (by go_simp; done)
        rotate_left
        · simp only [Act.put, List.setIfInBounds_toArray, List.set_cons_zero, List.set_cons_succ, i64_w, i32_w]
          rfl
        refine pure_ (i := 25) (N := some 166) (v := .bool true) (a' := ?_) #[true, true, true, true, true, true, true, true, true, true, true, true, true, true, true, true, true, true, true, true, true, true, true, true, true, true, false, false, false, false, false, false, false, false, false, false] rfl rfl (by kernel_rfl) (fun _ _ _ h => h) (Or.inl ⟨by rfl, ?_⟩) ?_ ?_
        · intro w' 
          exact (by go_simp; done)
        rotate_left
        · simp only [Act.put, List.setIfInBounds_toArray, List.set_cons_zero, List.set_cons_succ, i64_w, i32_w]
          rfl
        refine pure_ (i := 26) (N := some 167) (v := ?_) (a' := ?_) #[true, true, true, true, true, true, true, true, true, true, true, true, true, true, true, true, true, true, true, true, true, true, true, true, true, true, true, false, false, false, false, false, false, false, false, false] rfl rfl (by kernel_rfl) (fun _ _ _ h => h) (Or.inl ⟨by rfl, ?_⟩) ?_ ?_
        rotate_left
        · intro w' 
          go_simp
          with_reducible rfl
        rotate_left
        · simp only [Act.put, List.setIfInBounds_toArray, List.set_cons_zero, List.set_cons_succ, i64_w, i32_w]
          rfl
        refine pure_ (i := 28) (N := some 169) (v := ?_) (a' := ?_) #[true, true, true, true, true, true, true, true, true, true, true, true, true, true, true, true, true, true, true, true, true, true, true, true, true, true, true, false, true, false, false, false, false, false, false, false] rfl rfl (by kernel_rfl) (fun _ _ _ h => h) (Or.inl ⟨by rfl, ?_⟩) ?_ ?_
        rotate_left
        · intro w' 
          go_simp
          with_reducible rfl
        rotate_left
        · simp only [Act.put, List.setIfInBounds_toArray, List.set_cons_zero, List.set_cons_succ, i64_w, i32_w]
          rfl
        refine pure_ (i := 29) (N := some 170) (v := ?_) (a' := ?_) #[true, true, true, true, true, true, true, true, true, true, true, true, true, true, true, true, true, true, true, true, true, true, true, true, true, true, true, false, true, true, false, false, false, false, false, false] rfl rfl (by kernel_rfl) (fun _ _ _ h => h) (Or.inl ⟨by rfl, ?_⟩) ?_ ?_
        rotate_left
        · intro w' 
          go_simp
          with_reducible rfl
        rotate_left
        · simp only [Act.put, List.setIfInBounds_toArray, List.set_cons_zero, List.set_cons_succ, i64_w, i32_w]
          rfl
        refine pure_ (i := 30) (N := some 171) (v := ?_) (a' := ?_) #[true, true, true, true, true, true, true, true, true, true, true, true, true, true, true, true, true, true, true, true, true, true, true, true, true, true, true, false, true, true, true, false, false, false, false, false] rfl rfl (by kernel_rfl) (fun _ _ _ h => h) (Or.inl ⟨by rfl, ?_⟩) ?_ ?_
        rotate_left
        · intro w' 
          go_simp
          with_reducible rfl
        rotate_left
        · simp only [Act.put, List.setIfInBounds_toArray, List.set_cons_zero, List.set_cons_succ, i64_w, i32_w]
          rfl
        refine take_ (i := 31) (N := some 172) (v := .slice A1_ s.pend.length c1_) (a' := ?_) #[true, true, true, true, true, true, true, true, true, true, true, true, true, true, true, true, true, true, true, true, true, true, true, true, true, true, true, false, true, true, true, true, false, false, false, false] rfl rfl (by kernel_rfl) (fun _ _ _ h => h) (Or.inl ⟨by rfl, ?_⟩) hHeld ?_ ?_
        · intro w' hs_
          obtain ⟨hs7, hsc0, hsc1, hsv⟩ := hs_
          exact (by go_simp; done)
        rotate_left
        · simp only [Act.put, List.setIfInBounds_toArray, List.set_cons_zero, List.set_cons_succ, i64_w, i32_w]
          rfl
        refine pure_ (i := 32) (N := some 173) (v := .int .i64 (s.pend.length : Int)) (a' := ?_) #[true, true, true, true, true, true, true, true, true, true, true, true, true, true, true, true, true, true, true, true, true, true, true, true, true, true, true, false, true, true, true, true, true, false, false, false] rfl rfl (by kernel_rfl) (fun _ _ _ h => h) (Or.inl ⟨by rfl, ?_⟩) ?_ ?_
        · intro w' 
          exact (by go_simp; done)
        rotate_left
        · simp only [Act.put, List.setIfInBounds_toArray, List.set_cons_zero, List.set_cons_succ, i64_w, i32_w]
          rfl
        refine one_ (i := 27) (N := some 168) #[true, true, true, true, true, true, true, true, true, true, true, true, true, true, true, true, true, true, true, true, true, true, true, true, true, true, true, true, true, true, true, true, true, false, false, false] rfl rfl (by kernel_rfl) (by decide) (fun K hK => ?_)
        refine goes_ Try.func20 (by kernel_rfl) rfl #[.pointer (some ⟨p, 0, none⟩)] (by rfl) rfl rfl (by (try simp only [List.map_toArray, List.map_cons, List.map_nil]); first | done | rfl) ?_
        refine (disk_Pending.part w wn _ p n s HSn.out).mono ?_
        rintro e w' ⟨rfl, rfl⟩
        refine ⟨_, rfl, ?_⟩
        refine hK.out _ _ hHeld (fun hHeld => ?_)
        clear hK K
        refine norm_ (a' := ?_) ?_ ?_
        rotate_left
        · show Act.put _ (some 168) _ = _
          simp only [Act.put, List.setIfInBounds_toArray, List.set_cons_zero, List.set_cons_succ, i64_w, i32_w]
          rfl
        refine pure_ (i := 33) (N := some 174) (v := .bool true) (a' := ?_) #[true, true, true, true, true, true, true, true, true, true, true, true, true, true, true, true, true, true, true, true, true, true, true, true, true, true, true, true, true, true, true, true, true, true, false, false] rfl rfl (by kernel_rfl) (fun _ _ _ h => h) (Or.inl ⟨by rfl, ?_⟩) ?_ ?_
        · intro w' 
          exact (by go_simp; done)
        rotate_left
        · simp only [Act.put, List.setIfInBounds_toArray, List.set_cons_zero, List.set_cons_succ, i64_w, i32_w]
          rfl
        refine pure_ (i := 34) (N := some 175) (v := .bool true) (a' := ?_) #[true, true, true, true, true, true, true, true, true, true, true, true, true, true, true, true, true, true, true, true, true, true, true, true, true, true, true, true, true, true, true, true, true, true, true, false] rfl rfl (by kernel_rfl) (fun _ _ _ h => h) (Or.inl ⟨by rfl, ?_⟩) ?_ ?_
        · intro w' 
          exact (by go_simp; done)
        rotate_left
        · simp only [Act.put, List.setIfInBounds_toArray, List.set_cons_zero, List.set_cons_succ, i64_w, i32_w]
          rfl
        refine pure_ (i := 35) (N := some 4) (v := ?_) (a' := ?_) #[true, true, true, true, true, true, true, true, true, true, true, true, true, true, true, true, true, true, true, true, true, true, true, true, true, true, true, true, true, true, true, true, true, true, true, true] rfl rfl (by kernel_rfl) (fun _ _ _ h => h) (Or.inl ⟨by rfl, ?_⟩) ?_ ?_
        rotate_left
        · intro w' 
          go_simp
          with_reducible rfl
        rotate_left
        · simp only [Act.put, List.setIfInBounds_toArray, List.set_cons_zero, List.set_cons_succ, i64_w, i32_w]
          rfl
        refine done_ (by kernel_rfl) ?_
        have HBZ := Aside0.mk HSn.out.below
        clear HSn hHeld
        go_wp2
        go_ret
        exact ⟨rfl, HBZ.out⟩

end Go.Proofs.Ytbpkjkdbijifbaa.U
