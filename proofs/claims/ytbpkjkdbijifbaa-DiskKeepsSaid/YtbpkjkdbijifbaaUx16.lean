/- Written by uprint.py (ours) for this seat: functions of the translation as Lean functions, and what their calls do. Not trusted: Lean checks it. -/
import Derived.Test.YtbpkjkdbijifbaaUx0
import Derived.Test.YtbpkjkdbijifbaaUx1
import Derived.Test.YtbpkjkdbijifbaaUx2
import Derived.Test.YtbpkjkdbijifbaaUx4
import Derived.Test.YtbpkjkdbijifbaaUx5
import Derived.Test.YtbpkjkdbijifbaaUx6
import Derived.Test.YtbpkjkdbijifbaaUx8
import Derived.Test.YtbpkjkdbijifbaaUx10
import Derived.Test.YtbpkjkdbijifbaaUx11
import Derived.Test.YtbpkjkdbijifbaaUx12
import Derived.Test.YtbpkjkdbijifbaaUx13
namespace Go.Proofs.Ytbpkjkdbijifbaa.U
open Go.RowKit Go.Proofs.YtbpkjkdbijifbaaW.PrintWords Go.Proofs.YtbpkjkdbijifbaaW.PrintLast Go.Proofs.YtbpkjkdbijifbaaW.PrintMore
attribute [local go_sem] max2_int min2_int max_two min_two max_three min_three max_four min_four   -- for this text's walks alone
set_option linter.unusedVariables false
set_option linter.unusedSimpArgs false

/-! ### undercroftlaw02_DiskKeeps: function 7 (given) -/
def undercroftlaw02_DiskKeeps.f (l0 : List S24) (a1_0 a1_1 a1_2 : Int) (a1_3 : Bool) (l1_4 : List Int) (l2 : List Int) : Option Bool := some true
set_option maxHeartbeats 4000000 in
set_option maxRecDepth 100000 in
theorem undercroftlaw02_DiskKeeps.calls (A0 : Option Addr) (c0 : Nat) (l0 : List S24) (a1_0 a1_1 a1_2 : Int) (a1_3 : Bool) (A1_4 : Option Addr) (c1_4 : Nat) (l1_4 : List Int) (A2 : Option Addr) (c2 : Nat) (l2 : List Int) (r : Bool) (w : World)
    (hr0 : Kd.C k24 w A0 l0.length l0) (hc0 : l0.length ≤ c0) (hr1_4 : Kd.C (Kd.int .u8) w A1_4 l1_4.length l1_4) (hc1_4 : l1_4.length ≤ c1_4) (hr2 : Kd.C (Kd.int .u8) w A2 l2.length l2) (hc2 : l2.length ≤ c2) (h : undercroftlaw02_DiskKeeps.f l0 a1_0 a1_1 a1_2 a1_3 l1_4 l2 = some r) :
    Calls Try.prog 7 #[.slice A0 l0.length c0, .agg #[.int .i64 a1_0, .int .i64 a1_1, .int .u8 a1_2, .bool a1_3, .slice A1_4 l1_4.length c1_4], .slice A2 l2.length c2] w fun e w' => e = .returned (.bool r) ∧ Below w.heap.size w w' := by
  obtain rfl := Option.some.inj h
  clear h
  have HR0 := Aside0.mk hr0
  have HC0 := Aside0.mk hc0
  have HB4 := Aside0.mk hr1_4
  have HBC := Aside0.mk hc1_4
  have HR2 := Aside0.mk hr2
  have HC2 := Aside0.mk hc2
  clear hr0 hc0 hr1_4 hc1_4 hr2 hc2
  go_enter Try.func7, Try.ntmps7
  go_wp2_with fail
  have HS0 := Aside0.mk ((X.Lies.start w).alloc #[.int .i64 a1_0, .int .i64 a1_1, .int .u8 a1_2, .bool a1_3, .slice A1_4 l1_4.length c1_4] 24)
  obtain ⟨gl, hgl⟩ : ∃ gl, gl = w.heap.size := ⟨_, rfl⟩
  rw [← hgl] at HS0 ⊢
  generalize w.alloc _ = w1 at *
  clear hgl
  refine (undercroftlaw02_alive.calls true w1 rfl).mono ?_
  rintro e w2 ⟨rfl, hb1⟩
  have HS2 := Aside0.mk (HS0.out.grow hb1)
  clear hb1 HS0
  go_wp2_with fail
  refine (disk_New.part w w2 _ 4 HS2.out (by decide) (by decide)).mono ?_
  rintro e w3 ⟨p, rfl, hs⟩
  have HS := Aside0.mk hs
  clear hs HS2
  go_wp2_with fail
  refine (undercroftlaw02_few.calls A0 c0 l0 w3 HC0.out).mono ?_
  rintro e w' ⟨rfl, rfl⟩
  obtain ⟨l, hl⟩ : ∃ l, l = l0.take 40 := ⟨_, rfl⟩
  rw [← hl]
  have HL : Aside0 (∀ w', Below w.heap.size w w' → Kd.C k24 w' A0 l.length l) := ⟨fun w' hb => by rw [hl]; exact take40 (Kd.C_below HR0.out hb)⟩
  have HLL : Aside0 (l.length ≤ 40 ∧ l.length ≤ c0) := ⟨by rw [hl, List.length_take]; have := HC0.out; omega⟩
  clear hl HR0 HC0
  go_wp2_with fail
  go_loopg [10, 11] l.length (fun gk v10 v11 w' => ∃ i : Nat, v10 = .int .i64 (i : Int) ∧ Aside0 (gk + i = l.length) ∧ ∃ s : X.DS, Aside0 (s.pend.length ≤ i) ∧ Aside0 (s.set = false ∧ s.ghosts = []) ∧ Aside0 (X.Lies w w' [.disk p 4 s, .box gl #[.int .i64 a1_0, .int .i64 a1_1, .int .u8 a1_2, .bool a1_3, .slice A1_4 l1_4.length c1_4] 24]))
  case atStart => exact ⟨0, rfl, ⟨by omega⟩, _, ⟨Nat.le_refl _⟩, ⟨rfl, rfl⟩, HS⟩
  case round =>
    clear HS
    obtain ⟨i, rfl, HK, s, HPN, HCM, HS⟩ := hrel
    by_cases hlt : i < l.length
    · have q0 : decide ((i : Int) < (l.length : Int)) = true := decide_eq_true (by omega)
      have q00 : decide (i < l.length) = true := decide_eq_true hlt
      obtain ⟨g, o, A4, c4, rfl, hrg, hc4, hC4⟩ := deed_at (HL.out w (Below.refl _ _)) i hlt
      obtain ⟨x0, hx0⟩ : ∃ x, x = (rd_T24 l (i : Int)).f0 := ⟨_, rfl⟩
      obtain ⟨x1, hx1⟩ : ∃ x, x = (rd_T24 l (i : Int)).f1 := ⟨_, rfl⟩
      obtain ⟨x2, hx2⟩ : ∃ x, x = (rd_T24 l (i : Int)).f2 := ⟨_, rfl⟩
      obtain ⟨x3, hx3⟩ : ∃ x, x = (rd_T24 l (i : Int)).f3 := ⟨_, rfl⟩
      obtain ⟨x4, hx4⟩ : ∃ x, x = (rd_T24 l (i : Int)).f4 := ⟨_, rfl⟩
      rw [← hx0, ← hx1, ← hx2, ← hx3, ← hx4] at hrg
      rw [← hx4] at hc4 hC4
      clear hx0 hx1 hx2 hx3 hx4
      have HRG := Aside0.mk (range_below hrg HS.out.below)
      have HC4 := Aside0.mk hC4
      have HCC := Aside0.mk hc4
      obtain ⟨y, -, hy4, hye⟩ := and3 x1
      have HY4 := Aside0.mk hy4
      clear hrg hc4 hC4 hy4
      go_wp2_with ((with_reducible refine gate_ (.load 24 (.tmp 34)) rfl ?_); (refine wpList_load_mid rfl 24 (.tmp 34) rfl g (o + i * 5) rfl _ _ HRG.out Try.underlying24 rfl info_deed ?_))
      have HS1 := Aside0.mk (HS.out.alloc #[.int .i64 x0, .int .i64 (y : Int), .int .u8 x2, .bool x3, .slice A4 x4.length c4] 24)
      obtain ⟨gb, hgb⟩ : ∃ gb, gb = wr.heap.size := ⟨_, rfl⟩
      rw [← hgb] at HS1 ⊢
      generalize wr.alloc _ = w4 at *
      clear HS HRG hgb
      have HS4 := HS1
      have HC4a : Aside0 ((Kd.int .u8).C w4.drew A4 x4.length x4) := ⟨Kd.C_below HC4.out HS4.out.drew.below⟩
      clear HS1
      refine start_ (n := 6) (S := (fun w' => X.Blk w' gb #[.int .i64 x0, .int .i64 (y : Int), .int .u8 x2, .bool x3, .slice A4 x4.length c4] 24)) (ds := []) #[false, false, false, false, false, false] (by kernel_rfl) rfl rfl (HS4.out.drew.boxed 0 rfl) (fun hHeld => ?_)
      have HSa := Aside0.mk (HS4.out.drew)
      generalize World.drew _ = wa at *
      clear HS4
      refine pure_ (i := 0) (N := some 40) (v := ?_) (a' := ?_) #[true, false, false, false, false, false] rfl rfl (by kernel_rfl) (fun _ _ _ h => h) (Or.inl ⟨by rfl, ?_⟩) ?_ ?_
      rotate_left
      · intro w' 
        go_simp
        with_reducible rfl
      rotate_left
      · simp only [Act.put, List.setIfInBounds_toArray, List.set_cons_zero, List.set_cons_succ, i64_w, i32_w]
        rfl
      refine pure_ (i := 1) (N := some 41) (v := ?_) (a' := ?_) #[true, true, false, false, false, false] rfl rfl (by kernel_rfl) (fun _ _ _ h => h) (Or.inl ⟨by rfl, ?_⟩) ?_ ?_
      rotate_left
      · intro w' 
        go_simp
        with_reducible rfl
      rotate_left
      · simp only [Act.put, List.setIfInBounds_toArray, List.set_cons_zero, List.set_cons_succ, i64_w, i32_w]
        rfl
      refine take_ (i := 2) (N := some 42) (v := .int .i64 (y : Int)) (a' := ?_) #[true, true, true, false, false, false] rfl rfl (by kernel_rfl) (fun _ _ _ h => h) (Or.inl ⟨by rfl, ?_⟩) hHeld ?_ ?_
      · intro w' hs_
        exact (by have x1_ := hs_.cell 1 _ rfl; go_simp; done)
      rotate_left
      · simp only [Act.put, List.setIfInBounds_toArray, List.set_cons_zero, List.set_cons_succ, i64_w, i32_w]
        rfl
      refine take_ (i := 3) (N := some 43) (v := .agg #[.int .i64 x0, .int .i64 (y : Int), .int .u8 x2, .bool x3, .slice A4 x4.length c4]) (a' := ?_) #[true, true, true, true, false, false] rfl rfl (by kernel_rfl) (fun _ _ _ h => h) (Or.inl ⟨by rfl, ?_⟩) hHeld ?_ ?_
      · intro w' hs_
        exact X.load_exec 24 (.tmp 11) (by rfl) gb 0 (by rfl) [.int .i64 x0, .int .i64 (y : Int), .int .u8 x2, .bool x3, .slice A4 x4.length c4] _ (blk_range hs_) Try.underlying24 rfl info_deed
      rotate_left
      · simp only [Act.put, List.setIfInBounds_toArray, List.set_cons_zero, List.set_cons_succ, i64_w, i32_w]
        rfl
      refine one_ (i := 4) (N := some 44) #[true, true, true, true, true, false] rfl rfl (by kernel_rfl) (by decide) (fun K hK => ?_)
      refine goes_ Try.func13 (by kernel_rfl) rfl #[.agg #[.int .i64 x0, .int .i64 (y : Int), .int .u8 x2, .bool x3, .slice A4 x4.length c4]] (by rfl) rfl rfl (by (try simp only [List.map_toArray, List.map_cons, List.map_nil]); first | done | rfl) ?_
      refine (data_part w _ x0 (y : Int) x2 x3 A4 c4 x4 wa HSa.out HC4a.out HCC.out).mono ?_
      rintro e wb ⟨gd, cd, rfl, hcd, hs⟩
      have HSb := Aside0.mk hs
      have HCD := Aside0.mk hcd
      refine ⟨_, rfl, ?_⟩
      clear hs hcd HSa hHeld
      refine hK.out _ _ (HSb.out.boxed 1 rfl) (fun hHeld => ?_)
      clear hK K
      refine norm_ (a' := ?_) ?_ ?_
      rotate_left
      · show Act.put _ (some 44) _ = _
        simp only [Act.put, List.setIfInBounds_toArray, List.set_cons_zero, List.set_cons_succ, i64_w, i32_w]
        rfl
      refine one_ (i := 5) (N := some 45) #[true, true, true, true, true, true] rfl rfl (by kernel_rfl) (by decide) (fun K hK => ?_)
      refine goes_ Try.func14 (by kernel_rfl) rfl #[.pointer (some ⟨p, 0, none⟩), .int .i64 (y : Int), .slice (some ⟨gd, 0, none⟩) (dataN x3) cd] (by rfl) rfl rfl (by (try simp only [List.map_toArray, List.map_cons, List.map_nil]); first | done | rfl) ?_
      refine (write_data w wb _ p 4 s (y : Int) gd cd x2 x3 (HSb.out.sel [2, 0, 1, 3] (by decide)) HCD.out (by have := HPN.out; have := HLL.out; omega)).mono ?_
      rintro e w5 ⟨rfl, hs⟩
      have HF := Aside0.mk (hs.sel [0, 3] (by decide))
      have HX5 := Aside0.mk (hs.boxed 2 rfl)
      refine ⟨_, rfl, ?_⟩
      clear hs HSb hHeld
      refine hK.out _ _ HX5.out (fun hHeld => ?_)
      clear hK K
      refine norm_ (a' := ?_) ?_ ?_
      rotate_left
      · show Act.put _ (some 45) _ = _
        simp only [Act.put, List.setIfInBounds_toArray, List.set_cons_zero, List.set_cons_succ, i64_w, i32_w]
        rfl
      refine done_ (by kernel_rfl) ?_
      go_wp2_with fail
      cases gk with
      | zero => exact absurd HK.out (by omega)
      | succ k1 =>
        go_roundg k1
        case measure => omega
        case rel => exact ⟨i + 1, by have := HLL.out; rw [show wrap64 ((i : Int) + 1) = ((i + 1 : Nat) : Int) from by unfold wrap64; omega], ⟨by have := HK.out; omega⟩, put s 4 (y : Int) (dataL x2 (dataN x3)), ⟨by have := HPN.out; have := put_pend s 4 (y : Int) (dataL x2 (dataN x3)); omega⟩, ⟨put_calm HCM.out 4 (y : Int) (dataL x2 (dataN x3))⟩, HF⟩
    · have q0 : decide ((i : Int) < (l.length : Int)) = false := decide_eq_false (by omega)
      have q00 : decide (i < l.length) = false := decide_eq_false hlt
      have HPN : Aside0 (s.pend.length ≤ 40) := ⟨by have := HPN.out; have := HLL.out; have := HK.out; omega⟩
      have HS3 := Aside0.mk (HS.out.sel [1, 0] (by decide))
      have x3_ := (HS3.out.boxed 0 rfl).cell 3 _ rfl
      have f3_ := (HS3.out.boxed 0 rfl).free 3
      obtain ⟨y, -, hy4, hye⟩ := and3 a1_1
      have HY4 := Aside0.mk hy4
      clear HS HK hy4
      go_wp2_with fail
      have HS4 := Aside0.mk ((show X.Lies w wr (.box gl _ 24 :: [.disk p 4 s]) from HS3.out).set 3 (.bool false))
      have HS4 : Aside0 (X.Lies w (wr.setCell ⟨gl, 3, none⟩ (.bool false)) [.box gl #[.int .i64 a1_0, .int .i64 a1_1, .int .u8 a1_2, .bool false, .slice A1_4 l1_4.length c1_4] 24, .disk p 4 s]) := HS4
      generalize wr.setCell _ _ = w4 at *
      clear HS3 x3_ f3_
      have HB4a : Aside0 ((Kd.int .u8).C w4.drew A1_4 l1_4.length l1_4) := ⟨Kd.C_below HB4.out HS4.out.drew.below⟩
      refine start_ (n := 8) (S := (fun w' => X.Blk w' gl #[.int .i64 a1_0, .int .i64 a1_1, .int .u8 a1_2, .bool false, .slice A1_4 l1_4.length c1_4] 24)) (ds := []) #[false, false, false, false, false, false, false, false] (by kernel_rfl) rfl rfl (HS4.out.drew.boxed 0 rfl) (fun hHeld => ?_)
      have HSa := Aside0.mk (HS4.out.drew)
      generalize World.drew _ = wa at *
      clear HS4
      refine pure_ (i := 0) (N := some 47) (v := ?_) (a' := ?_) #[true, false, false, false, false, false, false, false] rfl rfl (by kernel_rfl) (fun _ _ _ h => h) (Or.inl ⟨by rfl, ?_⟩) ?_ ?_
      rotate_left
      · intro w' 
        go_simp
        with_reducible rfl
      rotate_left
      · simp only [Act.put, List.setIfInBounds_toArray, List.set_cons_zero, List.set_cons_succ, i64_w, i32_w]
        rfl
      refine pure_ (i := 1) (N := some 48) (v := ?_) (a' := ?_) #[true, true, false, false, false, false, false, false] rfl rfl (by kernel_rfl) (fun _ _ _ h => h) (Or.inl ⟨by rfl, ?_⟩) ?_ ?_
      rotate_left
      · intro w' 
        go_simp
        with_reducible rfl
      rotate_left
      · simp only [Act.put, List.setIfInBounds_toArray, List.set_cons_zero, List.set_cons_succ, i64_w, i32_w]
        rfl
      refine take_ (i := 2) (N := some 49) (v := .int .i64 a1_1) (a' := ?_) #[true, true, true, false, false, false, false, false] rfl rfl (by kernel_rfl) (fun _ _ _ h => h) (Or.inl ⟨by rfl, ?_⟩) hHeld ?_ ?_
      · intro w' hs_
        exact (by have x1_ := hs_.cell 1 _ rfl; go_simp; done)
      rotate_left
      · simp only [Act.put, List.setIfInBounds_toArray, List.set_cons_zero, List.set_cons_succ, i64_w, i32_w]
        rfl
      refine pure_ (i := 3) (N := some 50) (v := ?_) (a' := ?_) #[true, true, true, true, false, false, false, false] rfl rfl (by kernel_rfl) (fun _ _ _ h => h) (Or.inl ⟨by rfl, ?_⟩) ?_ ?_
      rotate_left
      · intro w' 
        go_simp
        with_reducible rfl
      rotate_left
      · simp only [Act.put, List.setIfInBounds_toArray, List.set_cons_zero, List.set_cons_succ, i64_w, i32_w]
        rfl
      refine take_ (i := 4) (N := some 51) (v := .agg #[.int .i64 a1_0, .int .i64 a1_1, .int .u8 a1_2, .bool false, .slice A1_4 l1_4.length c1_4]) (a' := ?_) #[true, true, true, true, true, false, false, false] rfl rfl (by kernel_rfl) (fun _ _ _ h => h) (Or.inl ⟨by rfl, ?_⟩) hHeld ?_ ?_
      · intro w' hs_
        exact X.load_exec 24 (.tmp 4) (by rfl) gl 0 (by rfl) [.int .i64 a1_0, .int .i64 a1_1, .int .u8 a1_2, .bool false, .slice A1_4 l1_4.length c1_4] _ (blk_range hs_) Try.underlying24 rfl info_deed
      rotate_left
      · simp only [Act.put, List.setIfInBounds_toArray, List.set_cons_zero, List.set_cons_succ, i64_w, i32_w]
        rfl
      refine one_ (i := 5) (N := some 52) #[true, true, true, true, true, true, false, false] rfl rfl (by kernel_rfl) (by decide) (fun K hK => ?_)
      refine goes_ Try.func13 (by kernel_rfl) rfl #[.agg #[.int .i64 a1_0, .int .i64 a1_1, .int .u8 a1_2, .bool false, .slice A1_4 l1_4.length c1_4]] (by rfl) rfl rfl (by (try simp only [List.map_toArray, List.map_cons, List.map_nil]); first | done | rfl) ?_
      refine (data_part w _ a1_0 a1_1 a1_2 false A1_4 c1_4 l1_4 wa HSa.out HB4a.out HBC.out).mono ?_
      rintro e wb ⟨gd, cd, rfl, hcd, hs⟩
      have HSb := Aside0.mk hs
      have HCD := Aside0.mk hcd
      refine ⟨_, rfl, ?_⟩
      clear hs hcd HSa hHeld
      refine hK.out _ _ (HSb.out.boxed 1 rfl) (fun hHeld => ?_)
      clear hK K
      refine norm_ (a' := ?_) ?_ ?_
      rotate_left
      · show Act.put _ (some 52) _ = _
        simp only [Act.put, List.setIfInBounds_toArray, List.set_cons_zero, List.set_cons_succ, i64_w, i32_w]
        rfl
      refine one_ (i := 6) (N := some 53) #[true, true, true, true, true, true, true, false] rfl rfl (by kernel_rfl) (by decide) (fun K hK => ?_)
      refine goes_ Try.func14 (by kernel_rfl) rfl #[.pointer (some ⟨p, 0, none⟩), .int .i64 (y : Int), .slice (some ⟨gd, 0, none⟩) (dataN false) cd] (by rfl) rfl rfl (by (try simp only [List.map_toArray, List.map_cons, List.map_nil]); first | done | rfl) ?_
      refine (write_data w wb _ p 4 s (y : Int) gd cd a1_2 false (HSb.out.sel [2, 0, 1] (by decide)) HCD.out (by have := HPN.out; have := HLL.out; omega)).mono ?_
      rintro e w5 ⟨rfl, hs⟩
      rw [putE_ok (m := dataN false) HY4.out rfl]
      rw [put_ok HY4.out (by rw [dataL_len]; rfl)] at hs
      have HS5 := Aside0.mk (hs.sel [0, 2] (by decide))
      refine ⟨_, rfl, ?_⟩
      clear hs HSb hHeld
      refine hK.out _ _ (HS5.out.boxed 1 rfl) (fun hHeld => ?_)
      clear hK K
      refine norm_ (a' := ?_) ?_ ?_
      rotate_left
      · show Act.put _ (some 53) _ = _
        simp only [Act.put, List.setIfInBounds_toArray, List.set_cons_zero, List.set_cons_succ, i64_w, i32_w]
        rfl
      refine pure_ (i := 7) (N := some 12) (v := ?_) (a' := ?_) #[true, true, true, true, true, true, true, true] rfl rfl (by kernel_rfl) (fun _ _ _ h => h) (Or.inl ⟨by rfl, ?_⟩) ?_ ?_
      rotate_left
      · intro w' 
        go_simp
        with_reducible rfl
      rotate_left
      · simp only [Act.put, List.setIfInBounds_toArray, List.set_cons_zero, List.set_cons_succ, i64_w, i32_w]
        rfl
      refine done_ (by kernel_rfl) ?_
      obtain ⟨s2, hs2⟩ : ∃ s2, s2 = s.write y (dataL a1_2 (dataN false)) := ⟨_, rfl⟩
      rw [← hs2] at HS5
      have HC2S : Aside0 (s2.set = false ∧ s2.ghosts = []) := ⟨by have h := put_calm HCM.out 4 (y : Int) (dataL a1_2 (dataN false)); rw [put_ok HY4.out (by rw [dataL_len]; rfl), ← hs2] at h; exact h⟩
      have HP2 : Aside0 (s2.pend.length ≤ 41) := ⟨by have h := X.DS.write_pend s y (dataL a1_2 (dataN false)); rw [← hs2] at h; have := HPN.out; omega⟩
      have HRY : Aside0 (s2.read y = dataL a1_2 256) := ⟨by
        rw [hs2, X.DS.read_write, if_pos rfl]
        unfold X.DS.blown
        rw [HCM.out.1, HCM.out.2]
        rfl⟩
      clear hs2 HPN HCM
      go_wp2_with fail
      refine (disk_Image.part w _ _ p 4 s2 HS5.out).mono ?_
      rintro e w6 ⟨v, rfl, hs⟩
      obtain ⟨A6, c6, rfl, -, -⟩ := row_str hs 0 rfl
      have hk6 := row_conv hs 0 rfl
      have HS6 := Aside0.mk (hs.sel [1, 2] (by decide))
      have HOK := Aside0.mk (hs.disk_ok 1 rfl)
      clear hs HS5
      go_wp2_with fail
      refine (disk_Settle.part w _ _ p 4 s2 A2 c2 l2 HS6.out (X.Rd.arg HR2.out) HC2.out (by have := HP2.out; omega)).mono ?_
      rintro e w7 ⟨rfl, hs⟩
      have HS7 := Aside0.mk hs
      clear hs HS6
      go_wp2_with fail
      refine (disk_Image.part w _ _ p 4 _ HS7.out).mono ?_
      rintro e w8 ⟨v, rfl, hs⟩
      rw [imageTo_congr (fun i => X.DS.read_settle HOK.out l2 i) 4] at hs
      obtain ⟨A7, c7, rfl, -, -⟩ := row_str hs 0 rfl
      have hk8 := row_conv hs 0 rfl
      have HOK3 := Aside0.mk (hs.disk_ok 1 rfl)
      have HS8 := Aside0.mk (hs.sel [1, 2] (by decide))
      clear hs HS7
      go_wp2_with fail
      refine (disk_Flush.part w _ _ p 4 _ HS8.out).mono ?_
      rintro e w9 ⟨rfl, hs⟩
      have HS9 := Aside0.mk hs
      clear hs HS8
      go_wp2_with fail
      refine (disk_Crash.part w _ _ p 4 _ A2 c2 l2 HS9.out (X.Rd.arg HR2.out) HC2.out (by have := X.DS.flush_pend (s2.settle l2); have := X.DS.settle_pend s2 l2; have := HP2.out; omega)).mono ?_
      rintro e w10 ⟨rfl, hs⟩
      have hrd : ∀ i, (((s2.settle l2).flush).crash l2).read i = s2.read i := fun i => (fc_read HOK3.out (settle_calm HC2S.out l2) l2 i).trans (X.DS.read_settle HOK.out l2 i)
      have HIM : Aside0 (imageTo (((s2.settle l2).flush).crash l2) 4 = imageTo s2 4) := ⟨imageTo_congr hrd 4⟩
      have HBY : Aside0 ((((s2.settle l2).flush).crash l2).bytes = imageTo s2 4) := ⟨by rw [← HIM.out]; exact (image_bytes (hs.disk_ok 0 rfl) rfl rfl).symm⟩
      have HPD : Aside0 ((((s2.settle l2).flush).crash l2).pend.length = 0) := ⟨rfl⟩
      have HRD : Aside0 ((((s2.settle l2).flush).crash l2).read y = dataL a1_2 256) := ⟨(hrd y).trans HRY.out⟩
      obtain ⟨s9, hs9⟩ : ∃ s9, s9 = (((s2.settle l2).flush).crash l2) := ⟨_, rfl⟩
      rw [← hs9] at hs HIM HBY HPD HRD
      clear hrd hs9
      have HS10 := Aside0.mk hs
      have x1_ := (hs.boxed 1 rfl).cell 1 _ rfl
      clear hs HS9
      go_wp2_with fail
      have HB : Aside0 (hasB (y : Int) 4 = true) := ⟨decide_eq_true ⟨by omega, by have := HY4.out; omega⟩⟩
      refine (disk_Read.part w _ _ p 4 _ (y : Int) HS10.out).mono ?_
      rintro e w11 ⟨v, rfl, hs⟩
      rw [if_pos HB.out, Int.toNat_natCast, HRD.out] at hs
      rw [if_pos HB.out]
      obtain ⟨A9, c9, rfl, -, -⟩ := row_str hs 0 rfl
      rw [dataL_len] at hs ⊢
      have HS11 := Aside0.mk (hs.sel [1, 2, 0] (by decide))
      clear hs HS10 x1_
      go_wp2_with fail
      refine start_ (n := 30) (S := (fun w' => X.Blk w' gl #[.int .i64 a1_0, .int .i64 a1_1, .int .u8 a1_2, .bool false, .slice A1_4 l1_4.length c1_4] 24 ∧ (Kd.int .u8).C w' A9 256 (dataL a1_2 256))) (ds := []) #[false, false, false, false, false, false, false, false, false, false, false, false, false, false, false, false, false, false, false, false, false, false, false, false, false, false, false, false, false, false] (by kernel_rfl) rfl rfl ⟨HS11.out.drew.boxed 1 rfl, (HS11.out.drew.rowC 2 rfl).1⟩ (fun hHeld => ?_)
      have HSa := Aside0.mk (HS11.out.drew)
      have HB4b : Aside0 ((Kd.int .u8).C (World.drew _) A1_4 l1_4.length l1_4) := ⟨Kd.C_below HB4.out HSa.out.below⟩
      generalize World.drew _ = wa at *
      clear HS11
      refine pure_ (i := 0) (N := some 82) (v := ?_) (a' := ?_) #[true, false, false, false, false, false, false, false, false, false, false, false, false, false, false, false, false, false, false, false, false, false, false, false, false, false, false, false, false, false] rfl rfl (by kernel_rfl) (fun _ _ _ h => h) (Or.inl ⟨by rfl, ?_⟩) ?_ ?_
      rotate_left
      · intro w' 
        go_simp
        with_reducible rfl
      rotate_left
      · simp only [Act.put, List.setIfInBounds_toArray, List.set_cons_zero, List.set_cons_succ, i64_w, i32_w]
        rfl
      refine pure_ (i := 1) (N := some 83) (v := .bool true) (a' := ?_) #[true, true, false, false, false, false, false, false, false, false, false, false, false, false, false, false, false, false, false, false, false, false, false, false, false, false, false, false, false, false] rfl rfl (by kernel_rfl) (fun _ _ _ h => h) (Or.inl ⟨by rfl, ?_⟩) ?_ ?_
      · intro w' 
        exact (by go_simp; done)
      rotate_left
      · simp only [Act.put, List.setIfInBounds_toArray, List.set_cons_zero, List.set_cons_succ, i64_w, i32_w]
        rfl
      refine pure_ (i := 2) (N := some 84) (v := ?_) (a' := ?_) #[true, true, true, false, false, false, false, false, false, false, false, false, false, false, false, false, false, false, false, false, false, false, false, false, false, false, false, false, false, false] rfl rfl (by kernel_rfl) (fun _ _ _ h => h) (Or.inl ⟨by rfl, ?_⟩) ?_ ?_
      rotate_left
      · intro w' 
        go_simp
        with_reducible rfl
      rotate_left
      · simp only [Act.put, List.setIfInBounds_toArray, List.set_cons_zero, List.set_cons_succ, i64_w, i32_w]
        rfl
      refine pure_ (i := 3) (N := some 85) (v := ?_) (a' := ?_) #[true, true, true, true, false, false, false, false, false, false, false, false, false, false, false, false, false, false, false, false, false, false, false, false, false, false, false, false, false, false] rfl rfl (by kernel_rfl) (fun _ _ _ h => h) (Or.inl ⟨by rfl, ?_⟩) ?_ ?_
      rotate_left
      · intro w' 
        go_simp
        with_reducible rfl
      rotate_left
      · simp only [Act.put, List.setIfInBounds_toArray, List.set_cons_zero, List.set_cons_succ, i64_w, i32_w]
        rfl
      refine take_ (i := 4) (N := some 86) (v := .string (strOfNums (dataL a1_2 256))) (a' := ?_) #[true, true, true, true, true, false, false, false, false, false, false, false, false, false, false, false, false, false, false, false, false, false, false, false, false, false, false, false, false, false] rfl rfl (by kernel_rfl) (fun _ _ _ h => h) (Or.inl ⟨by rfl, ?_⟩) hHeld ?_ ?_
      · intro w' hs_
        obtain ⟨hs0, hs1⟩ := hs_
        exact conv_exec (.tmp 85) (by rfl) _ _ (by rfl) (str_C' hs1)
      rotate_left
      · simp only [Act.put, List.setIfInBounds_toArray, List.set_cons_zero, List.set_cons_succ, i64_w, i32_w]
        rfl
      refine take_ (i := 5) (N := some 87) (v := .agg #[.int .i64 a1_0, .int .i64 a1_1, .int .u8 a1_2, .bool false, .slice A1_4 l1_4.length c1_4]) (a' := ?_) #[true, true, true, true, true, true, false, false, false, false, false, false, false, false, false, false, false, false, false, false, false, false, false, false, false, false, false, false, false, false] rfl rfl (by kernel_rfl) (fun _ _ _ h => h) (Or.inl ⟨by rfl, ?_⟩) hHeld ?_ ?_
      · intro w' hs_
        obtain ⟨hs0, hs1⟩ := hs_
        exact X.load_exec 24 (.tmp 4) (by rfl) gl 0 (by rfl) [.int .i64 a1_0, .int .i64 a1_1, .int .u8 a1_2, .bool false, .slice A1_4 l1_4.length c1_4] _ (blk_range hs0) Try.underlying24 rfl info_deed
      rotate_left
      · simp only [Act.put, List.setIfInBounds_toArray, List.set_cons_zero, List.set_cons_succ, i64_w, i32_w]
        rfl
      refine one_ (i := 6) (N := some 88) #[true, true, true, true, true, true, true, false, false, false, false, false, false, false, false, false, false, false, false, false, false, false, false, false, false, false, false, false, false, false] rfl rfl (by kernel_rfl) (by decide) (fun K hK => ?_)
      refine goes_ Try.func13 (by kernel_rfl) rfl #[.agg #[.int .i64 a1_0, .int .i64 a1_1, .int .u8 a1_2, .bool false, .slice A1_4 l1_4.length c1_4]] (by rfl) rfl rfl (by (try simp only [List.map_toArray, List.map_cons, List.map_nil]); first | done | rfl) ?_
      refine (data_part w _ a1_0 a1_1 a1_2 false A1_4 c1_4 l1_4 wa HSa.out HB4b.out HBC.out).mono ?_
      rintro e wb ⟨gd, cd, rfl, hcd, hs⟩
      have hk := row_conv hs 0 rfl
      have HSb := Aside0.mk (hs.sel [1, 2, 3] (by decide))
      refine ⟨_, rfl, ?_⟩
      clear hcd HSa HB4b hs hHeld
      refine hK.out _ _ ⟨HSb.out.boxed 1 rfl, (HSb.out.rowC 2 rfl).1⟩ (fun hHeld => ?_)
      clear hK K
      refine norm_ (a' := ?_) ?_ ?_
      rotate_left
      · show Act.put _ (some 88) _ = _
        simp only [Act.put, List.setIfInBounds_toArray, List.set_cons_zero, List.set_cons_succ, i64_w, i32_w]
        rfl
      refine one_ (i := 7) (N := some 89) #[true, true, true, true, true, true, true, true, false, false, false, false, false, false, false, false, false, false, false, false, false, false, false, false, false, false, false, false, false, false] rfl rfl (by kernel_rfl) (by decide) (fun K hK => ?_)
      refine X.val_ (by rfl) rfl (conv_exec _ (by rfl) _ _ (by rfl) (show _ = Result.ok (.string (strOfNums (dataL a1_2 256))) _ from hk)) ?_
      refine hK.out _ _ ⟨HSb.out.boxed 1 rfl, (HSb.out.rowC 2 rfl).1⟩ (fun hHeld => ?_)
      clear hK K
      refine norm_ (a' := ?_) ?_ ?_
      rotate_left
      · show Act.put _ (some 89) _ = _
        simp only [Act.put, List.setIfInBounds_toArray, List.set_cons_zero, List.set_cons_succ, i64_w, i32_w]
        rfl
      refine pure_ (i := 8) (N := some 90) (v := .bool true) (a' := ?_) #[true, true, true, true, true, true, true, true, true, false, false, false, false, false, false, false, false, false, false, false, false, false, false, false, false, false, false, false, false, false] rfl rfl (by kernel_rfl) (fun _ _ _ h => h) (Or.inl ⟨by rfl, ?_⟩) ?_ ?_
      · intro w' 
        exact (by go_simp; done)
      rotate_left
      · simp only [Act.put, List.setIfInBounds_toArray, List.set_cons_zero, List.set_cons_succ, i64_w, i32_w]
        rfl
      refine pure_ (i := 9) (N := some 91) (v := ?_) (a' := ?_) #[true, true, true, true, true, true, true, true, true, true, false, false, false, false, false, false, false, false, false, false, false, false, false, false, false, false, false, false, false, false] rfl rfl (by kernel_rfl) (fun _ _ _ h => h) (Or.inl ⟨by rfl, ?_⟩) ?_ ?_
      rotate_left
      · intro w' 
        go_simp
        with_reducible rfl
      rotate_left
      · simp only [Act.put, List.setIfInBounds_toArray, List.set_cons_zero, List.set_cons_succ, i64_w, i32_w]
        rfl
      refine pure_ (i := 10) (N := some 92) (v := ?_) (a' := ?_) #[true, true, true, true, true, true, true, true, true, true, true, false, false, false, false, false, false, false, false, false, false, false, false, false, false, false, false, false, false, false] rfl rfl (by kernel_rfl) (fun _ _ _ h => h) (Or.inl ⟨by rfl, ?_⟩) ?_ ?_
      rotate_left
      · intro w' 
        go_simp
        with_reducible rfl
      rotate_left
      · simp only [Act.put, List.setIfInBounds_toArray, List.set_cons_zero, List.set_cons_succ, i64_w, i32_w]
        rfl
      refine pure_ (i := 11) (N := some 93) (v := ?_) (a' := ?_) #[true, true, true, true, true, true, true, true, true, true, true, true, false, false, false, false, false, false, false, false, false, false, false, false, false, false, false, false, false, false] rfl rfl (by kernel_rfl) (fun _ _ _ h => h) (Or.inl ⟨by rfl, ?_⟩) ?_ ?_
      rotate_left
      · intro w' 
        go_simp
        with_reducible rfl
      rotate_left
      · simp only [Act.put, List.setIfInBounds_toArray, List.set_cons_zero, List.set_cons_succ, i64_w, i32_w]
        rfl
      refine pure_ (i := 14) (N := some 96) (v := ?_) (a' := ?_) #[true, true, true, true, true, true, true, true, true, true, true, true, false, false, true, false, false, false, false, false, false, false, false, false, false, false, false, false, false, false] rfl rfl (by kernel_rfl) (fun _ _ _ h => h) (Or.inl ⟨by rfl, ?_⟩) ?_ ?_
      rotate_left
      · intro w' 
        go_simp
        with_reducible rfl
      rotate_left
      · simp only [Act.put, List.setIfInBounds_toArray, List.set_cons_zero, List.set_cons_succ, i64_w, i32_w]
        rfl
      refine one_ (i := 12) (N := some 94) #[true, true, true, true, true, true, true, true, true, true, true, true, true, false, true, false, false, false, false, false, false, false, false, false, false, false, false, false, false, false] rfl rfl (by kernel_rfl) (by decide) (fun K hK => ?_)
      refine goes_ Try.func19 (by kernel_rfl) rfl #[.pointer (some ⟨p, 0, none⟩)] (by rfl) rfl rfl (by (try simp only [List.map_toArray, List.map_cons, List.map_nil]); first | done | rfl) ?_
      refine (disk_Image.part w wb _ p 4 _ HSb.out).mono ?_
      rintro e wc ⟨v, rfl, hs⟩
      rw [HIM.out] at hs
      obtain ⟨A7, c7, rfl, -, -⟩ := row_str hs 0 rfl
      have hk := row_conv hs 0 rfl
      have HSc := Aside0.mk (hs.sel [1, 2, 3] (by decide))
      refine ⟨_, rfl, ?_⟩
      clear hs HSb hHeld
      refine hK.out _ _ ⟨HSc.out.boxed 1 rfl, (HSc.out.rowC 2 rfl).1⟩ (fun hHeld => ?_)
      clear hK K
      refine norm_ (a' := ?_) ?_ ?_
      rotate_left
      · show Act.put _ (some 94) _ = _
        simp only [Act.put, List.setIfInBounds_toArray, List.set_cons_zero, List.set_cons_succ, i64_w, i32_w]
        rfl
      refine one_ (i := 13) (N := some 95) #[true, true, true, true, true, true, true, true, true, true, true, true, true, true, true, false, false, false, false, false, false, false, false, false, false, false, false, false, false, false] rfl rfl (by kernel_rfl) (by decide) (fun K hK => ?_)
      refine X.val_ (by rfl) rfl (conv_exec _ (by rfl) _ _ (by rfl) hk) ?_
      refine hK.out _ _ ⟨HSc.out.boxed 1 rfl, (HSc.out.rowC 2 rfl).1⟩ (fun hHeld => ?_)
      clear hK K
      refine norm_ (a' := ?_) ?_ ?_
      rotate_left
      · show Act.put _ (some 95) _ = _
        simp only [Act.put, List.setIfInBounds_toArray, List.set_cons_zero, List.set_cons_succ, i64_w, i32_w]
        rfl
      refine pure_ (i := 15) (N := some 97) (v := .bool true) (a' := ?_) #[true, true, true, true, true, true, true, true, true, true, true, true, true, true, true, true, false, false, false, false, false, false, false, false, false, false, false, false, false, false] rfl rfl (by kernel_rfl) (fun _ _ _ h => h) (Or.inl ⟨by rfl, ?_⟩) ?_ ?_
      · intro w' 
        exact (by go_simp; done)
      rotate_left
      · simp only [Act.put, List.setIfInBounds_toArray, List.set_cons_zero, List.set_cons_succ, i64_w, i32_w]
        rfl
      refine pure_ (i := 16) (N := some 98) (v := ?_) (a' := ?_) #[true, true, true, true, true, true, true, true, true, true, true, true, true, true, true, true, true, false, false, false, false, false, false, false, false, false, false, false, false, false] rfl rfl (by kernel_rfl) (fun _ _ _ h => h) (Or.inl ⟨by rfl, ?_⟩) ?_ ?_
      rotate_left
      · intro w' 
        go_simp
        with_reducible rfl
      rotate_left
      · simp only [Act.put, List.setIfInBounds_toArray, List.set_cons_zero, List.set_cons_succ, i64_w, i32_w]
        rfl
      refine pure_ (i := 17) (N := some 99) (v := ?_) (a' := ?_) #[true, true, true, true, true, true, true, true, true, true, true, true, true, true, true, true, true, true, false, false, false, false, false, false, false, false, false, false, false, false] rfl rfl (by kernel_rfl) (fun _ _ _ h => h) (Or.inl ⟨by rfl, ?_⟩) ?_ ?_
      rotate_left
      · intro w' 
        go_simp
        with_reducible rfl
      rotate_left
      · simp only [Act.put, List.setIfInBounds_toArray, List.set_cons_zero, List.set_cons_succ, i64_w, i32_w]
        rfl
      refine pure_ (i := 18) (N := some 100) (v := ?_) (a' := ?_) #[true, true, true, true, true, true, true, true, true, true, true, true, true, true, true, true, true, true, true, false, false, false, false, false, false, false, false, false, false, false] rfl rfl (by kernel_rfl) (fun _ _ _ h => h) (Or.inl ⟨by rfl, ?_⟩) ?_ ?_
      rotate_left
      · intro w' 
        go_simp
        with_reducible rfl
      rotate_left
      · simp only [Act.put, List.setIfInBounds_toArray, List.set_cons_zero, List.set_cons_succ, i64_w, i32_w]
        rfl
      refine pure_ (i := 21) (N := some 103) (v := ?_) (a' := ?_) #[true, true, true, true, true, true, true, true, true, true, true, true, true, true, true, true, true, true, true, false, false, true, false, false, false, false, false, false, false, false] rfl rfl (by kernel_rfl) (fun _ _ _ h => h) (Or.inl ⟨by rfl, ?_⟩) ?_ ?_
      rotate_left
      · intro w' 
        go_simp
        with_reducible rfl
      rotate_left
      · simp only [Act.put, List.setIfInBounds_toArray, List.set_cons_zero, List.set_cons_succ, i64_w, i32_w]
        rfl
      refine one_ (i := 19) (N := some 101) #[true, true, true, true, true, true, true, true, true, true, true, true, true, true, true, true, true, true, true, true, false, true, false, false, false, false, false, false, false, false] rfl rfl (by kernel_rfl) (by decide) (fun K hK => ?_)
      refine goes_ Try.func16 (by kernel_rfl) rfl #[.pointer (some ⟨p, 0, none⟩)] (by rfl) rfl rfl (by (try simp only [List.map_toArray, List.map_cons, List.map_nil]); first | done | rfl) ?_
      refine (disk_Stable.part w wc _ p 4 _ HSc.out).mono ?_
      rintro e wd ⟨v, rfl, hs⟩
      rw [HBY.out] at hs
      obtain ⟨A8, c8, rfl, -, -⟩ := row_str hs 0 rfl
      have hk := row_conv hs 0 rfl
      have HSd := Aside0.mk (hs.sel [1, 2, 3] (by decide))
      refine ⟨_, rfl, ?_⟩
      clear hs HSc hHeld
      refine hK.out _ _ ⟨HSd.out.boxed 1 rfl, (HSd.out.rowC 2 rfl).1⟩ (fun hHeld => ?_)
      clear hK K
      refine norm_ (a' := ?_) ?_ ?_
      rotate_left
      · show Act.put _ (some 101) _ = _
        simp only [Act.put, List.setIfInBounds_toArray, List.set_cons_zero, List.set_cons_succ, i64_w, i32_w]
        rfl
      refine one_ (i := 20) (N := some 102) #[true, true, true, true, true, true, true, true, true, true, true, true, true, true, true, true, true, true, true, true, true, true, false, false, false, false, false, false, false, false] rfl rfl (by kernel_rfl) (by decide) (fun K hK => ?_)
      refine X.val_ (by rfl) rfl (conv_exec _ (by rfl) _ _ (by rfl) hk) ?_
      refine hK.out _ _ ⟨HSd.out.boxed 1 rfl, (HSd.out.rowC 2 rfl).1⟩ (fun hHeld => ?_)
      clear hK K
      refine norm_ (a' := ?_) ?_ ?_
      rotate_left
      · show Act.put _ (some 102) _ = _
        simp only [Act.put, List.setIfInBounds_toArray, List.set_cons_zero, List.set_cons_succ, i64_w, i32_w]
        rfl
      refine pure_ (i := 22) (N := some 104) (v := .bool true) (a' := ?_) #[true, true, true, true, true, true, true, true, true, true, true, true, true, true, true, true, true, true, true, true, true, true, true, false, false, false, false, false, false, false] rfl rfl (by kernel_rfl) (fun _ _ _ h => h) (Or.inl ⟨by rfl, ?_⟩) ?_ ?_
      · intro w' 
        exact (by go_simp; done)
      rotate_left
      · simp only [Act.put, List.setIfInBounds_toArray, List.set_cons_zero, List.set_cons_succ, i64_w, i32_w]
        rfl
      refine pure_ (i := 23) (N := some 105) (v := ?_) (a' := ?_) #[true, true, true, true, true, true, true, true, true, true, true, true, true, true, true, true, true, true, true, true, true, true, true, true, false, false, false, false, false, false] rfl rfl (by kernel_rfl) (fun _ _ _ h => h) (Or.inl ⟨by rfl, ?_⟩) ?_ ?_
      rotate_left
      · intro w' 
        go_simp
        with_reducible rfl
      rotate_left
      · simp only [Act.put, List.setIfInBounds_toArray, List.set_cons_zero, List.set_cons_succ, i64_w, i32_w]
        rfl
      refine pure_ (i := 24) (N := some 106) (v := ?_) (a' := ?_) #[true, true, true, true, true, true, true, true, true, true, true, true, true, true, true, true, true, true, true, true, true, true, true, true, true, false, false, false, false, false] rfl rfl (by kernel_rfl) (fun _ _ _ h => h) (Or.inl ⟨by rfl, ?_⟩) ?_ ?_
      rotate_left
      · intro w' 
        go_simp
        with_reducible rfl
      rotate_left
      · simp only [Act.put, List.setIfInBounds_toArray, List.set_cons_zero, List.set_cons_succ, i64_w, i32_w]
        rfl
      refine pure_ (i := 25) (N := some 107) (v := ?_) (a' := ?_) #[true, true, true, true, true, true, true, true, true, true, true, true, true, true, true, true, true, true, true, true, true, true, true, true, true, true, false, false, false, false] rfl rfl (by kernel_rfl) (fun _ _ _ h => h) (Or.inl ⟨by rfl, ?_⟩) ?_ ?_
      rotate_left
      · intro w' 
        go_simp
        with_reducible rfl
      rotate_left
      · simp only [Act.put, List.setIfInBounds_toArray, List.set_cons_zero, List.set_cons_succ, i64_w, i32_w]
        rfl
      refine one_ (i := 26) (N := some 108) #[true, true, true, true, true, true, true, true, true, true, true, true, true, true, true, true, true, true, true, true, true, true, true, true, true, true, true, false, false, false] rfl rfl (by kernel_rfl) (by decide) (fun K hK => ?_)
      refine goes_ Try.func20 (by kernel_rfl) rfl #[.pointer (some ⟨p, 0, none⟩)] (by rfl) rfl rfl (by (try simp only [List.map_toArray, List.map_cons, List.map_nil]); first | done | rfl) ?_
      refine (disk_Pending.part w wd _ p 4 _ HSd.out).mono ?_
      rintro e w' ⟨rfl, rfl⟩
      rw [HPD.out]
      refine ⟨_, rfl, ?_⟩
      refine hK.out _ _ ⟨HSd.out.boxed 1 rfl, (HSd.out.rowC 2 rfl).1⟩ (fun hHeld => ?_)
      clear hK K
      refine norm_ (a' := ?_) ?_ ?_
      rotate_left
      · show Act.put _ (some 108) _ = _
        simp only [Act.put, List.setIfInBounds_toArray, List.set_cons_zero, List.set_cons_succ, i64_w, i32_w]
        rfl
      refine pure_ (i := 27) (N := some 109) (v := ?_) (a' := ?_) #[true, true, true, true, true, true, true, true, true, true, true, true, true, true, true, true, true, true, true, true, true, true, true, true, true, true, true, true, false, false] rfl rfl (by kernel_rfl) (fun _ _ _ h => h) (Or.inl ⟨by rfl, ?_⟩) ?_ ?_
      rotate_left
      · intro w' 
        go_simp
        with_reducible rfl
      rotate_left
      · simp only [Act.put, List.setIfInBounds_toArray, List.set_cons_zero, List.set_cons_succ, i64_w, i32_w]
        rfl
      refine pure_ (i := 28) (N := some 110) (v := ?_) (a' := ?_) #[true, true, true, true, true, true, true, true, true, true, true, true, true, true, true, true, true, true, true, true, true, true, true, true, true, true, true, true, true, false] rfl rfl (by kernel_rfl) (fun _ _ _ h => h) (Or.inl ⟨by rfl, ?_⟩) ?_ ?_
      rotate_left
      · intro w' 
        go_simp
        with_reducible rfl
      rotate_left
      · simp only [Act.put, List.setIfInBounds_toArray, List.set_cons_zero, List.set_cons_succ, i64_w, i32_w]
        rfl
      refine pure_ (i := 29) (N := some 6) (v := ?_) (a' := ?_) #[true, true, true, true, true, true, true, true, true, true, true, true, true, true, true, true, true, true, true, true, true, true, true, true, true, true, true, true, true, true] rfl rfl (by kernel_rfl) (fun _ _ _ h => h) (Or.inl ⟨by rfl, ?_⟩) ?_ ?_
      rotate_left
      · intro w' 
        go_simp
        with_reducible rfl
      rotate_left
      · simp only [Act.put, List.setIfInBounds_toArray, List.set_cons_zero, List.set_cons_succ, i64_w, i32_w]
        rfl
      refine done_ (by kernel_rfl) ?_
      have HBE := Aside0.mk HSd.out.below
      clear HSd hHeld
      go_wp2
      go_ret
      exact ⟨rfl, HBE.out⟩

end Go.Proofs.Ytbpkjkdbijifbaa.U
