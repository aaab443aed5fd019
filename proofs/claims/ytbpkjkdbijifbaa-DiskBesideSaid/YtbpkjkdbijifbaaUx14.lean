/- Written by uprint.py (ours) for this seat: functions of the translation as Lean functions, and what their calls do. Not trusted: Lean checks it. -/
import Derived.Test.YtbpkjkdbijifbaaUx0
import Derived.Test.YtbpkjkdbijifbaaUx1
import Derived.Test.YtbpkjkdbijifbaaUx5
import Derived.Test.YtbpkjkdbijifbaaUx6
import Derived.Test.YtbpkjkdbijifbaaUx11
import Derived.Test.YtbpkjkdbijifbaaUx12
import Derived.Test.YtbpkjkdbijifbaaUx13
namespace Go.Proofs.Ytbpkjkdbijifbaa.U
open Go.RowKit Go.Proofs.YtbpkjkdbijifbaaW.PrintWords Go.Proofs.YtbpkjkdbijifbaaW.PrintLast Go.Proofs.YtbpkjkdbijifbaaW.PrintMore
attribute [local go_sem] max2_int min2_int max_two min_two max_three min_three max_four min_four   -- for this text's walks alone
set_option linter.unusedVariables false
set_option linter.unusedSimpArgs false

/-! ### undercroftlaw02_DiskBeside: function 5 (given) -/
def undercroftlaw02_DiskBeside.f (l0 : List S24) (a1 : Int) : Option Bool := some true
set_option maxHeartbeats 4000000 in
set_option maxRecDepth 100000 in
theorem undercroftlaw02_DiskBeside.calls (A0 : Option Addr) (c0 : Nat) (l0 : List S24) (a1 : Int) (r : Bool) (w : World) (hr0 : Kd.C k24 w A0 l0.length l0) (hc0 : l0.length ≤ c0) (h : undercroftlaw02_DiskBeside.f l0 a1 = some r) :
    Calls Try.prog 5 #[.slice A0 l0.length c0, .int .i64 a1] w fun e w' => e = .returned (.bool r) ∧ Below w.heap.size w w' := by
  obtain rfl := Option.some.inj h
  clear h
  have HR0 := Aside0.mk hr0
  have HC0 := Aside0.mk hc0
  clear hr0 hc0
  go_enter Try.func5, Try.ntmps5
  go_wp2_with fail
  refine (undercroftlaw02_alive.calls true w rfl).mono ?_
  rintro e w1 ⟨rfl, hb1⟩
  have HS := Aside0.mk ((X.Lies.start w).grow hb1)
  clear hb1
  go_wp2_with fail
  refine (disk_New.part w w1 _ 4 HS.out (by decide) (by decide)).mono ?_
  rintro e w2 ⟨p, rfl, hs⟩
  have HS := Aside0.mk hs
  clear hs
  go_wp2_with fail
  refine (undercroftlaw02_few.calls A0 c0 l0 w2 HC0.out).mono ?_
  rintro e w' ⟨rfl, rfl⟩
  obtain ⟨l, hl⟩ : ∃ l, l = l0.take 40 := ⟨_, rfl⟩
  rw [← hl]
  have HL : Aside0 (∀ w', Below w.heap.size w w' → Kd.C k24 w' A0 l.length l) := ⟨fun w' hb => by rw [hl]; exact take40 (Kd.C_below HR0.out hb)⟩
  have HLL : Aside0 (l.length ≤ 40 ∧ l.length ≤ c0) := ⟨by rw [hl, List.length_take]; have := HC0.out; omega⟩
  clear hl HR0 HC0
  go_wp2_with fail
  obtain ⟨b, hb0, hb4, hbe⟩ := and3 a1
  rw [hbe]
  clear hbe hb0
  have HB : Aside0 (hasB (b : Int) 4 = true) := ⟨decide_eq_true ⟨by omega, by omega⟩⟩
  go_loopg [8, 9, 10, 11, 12, 13] l.length (fun gk v8 v9 v10 v11 v12 v13 w' => ∃ i : Nat, v8 = .int .i64 (i : Int) ∧ Aside0 (gk + i = l.length) ∧ ∃ s : X.DS, Aside0 (s.pend.length ≤ i) ∧ Aside0 (X.Lies w w' [.disk p 4 s]))
  case atStart => exact ⟨0, rfl, ⟨by omega⟩, _, ⟨Nat.le_refl _⟩, HS⟩
  case round =>
    clear HS
    obtain ⟨i, rfl, HK, s, HPN, HS⟩ := hrel
    by_cases hlt : i < l.length
    · have q0 : decide ((i : Int) < (l.length : Int)) = true := decide_eq_true (by omega)
      have q00 : decide (i < l.length) = true := decide_eq_true hlt
      obtain ⟨g, o, A4, c4, rfl, hrg, hc4, hC4⟩ := deed_at (HL.out w (Below.refl _ _)) i hlt
      obtain ⟨x0, hx0⟩ : ∃ x, x = (rd_T24 l (i : Int)).f0 := ⟨_, rfl⟩
      obtain ⟨x1, hx1⟩ : ∃ x, x = (rd_T24 l (i : Int)).f1 := ⟨_, rfl⟩
      obtain ⟨x2, hx2⟩ : ∃ x, x = (rd_T24 l (i : Int)).f2 := ⟨_, rfl⟩
      obtain ⟨x3, hx3⟩ : ∃ x, x = (rd_T24 l (i : Int)).f3 := ⟨_, rfl⟩
      obtain ⟨x4, hx4⟩ : ∃ x, x = (rd_T24 l (i : Int)).f4 := ⟨_, rfl⟩
      rw [← hx0, ← hx1, ← hx2, ← hx3, ← hx4] at hrg
      rw [← hx4] at hc4 hC4
      clear hx0 hx1 hx2 hx3 hx4
      have HRG := Aside0.mk (range_below hrg HS.out.below)
      have HC4 := Aside0.mk hC4
      have HCC := Aside0.mk hc4
      obtain ⟨y, -, hy4, hye⟩ := and3 x1
      obtain ⟨q, -, hq4, hqe⟩ := and3 x0
      have HY4 := Aside0.mk hy4
      have HOK := Aside0.mk (HS.out.disk_ok 0 rfl)
      clear hrg hc4 hC4 hy4
      go_wp2_with ((with_reducible refine gate_ (.load 24 (.tmp 34)) rfl ?_); (refine wpList_load_mid rfl 24 (.tmp 34) rfl g (o + i * 5) rfl _ _ HRG.out Try.underlying24 rfl info_deed ?_))
      have HS1 := Aside0.mk (HS.out.alloc #[.int .i64 x0, .int .i64 (y : Int), .int .u8 x2, .bool false, .slice A4 x4.length c4] 24)
      obtain ⟨gb, hgb⟩ : ∃ gb, gb = wr.heap.size := ⟨_, rfl⟩
      rw [← hgb] at HS1 ⊢
      generalize wr.alloc _ = w3 at *
      clear HS HRG hgb
      refine (disk_Read.part w _ _ p 4 s (b : Int) (HS1.out.sel [1, 0] (by decide))).mono ?_
      rintro e w4 ⟨v, rfl, hs⟩
      rw [if_pos HB.out, Int.toNat_natCast] at hs
      rw [if_pos HB.out]
      obtain ⟨A6, c6, rfl, -, -⟩ := row_str hs 0 rfl
      have HS4 := Aside0.mk hs
      have x0_ := (hs.boxed 2 rfl).cell 0 _ rfl
      have x1_ := (hs.boxed 2 rfl).cell 1 _ rfl
      have x4_ := (hs.boxed 2 rfl).cell 4 _ rfl
      clear hs HS1
      have hq : q = 1 ∨ q = 2 ∨ (q ≠ 1 ∧ q ≠ 2) := by omega
      rcases hq with rfl | rfl | ⟨hq1, hq2⟩
      · go_wp2_with fail
        refine (disk_Flush.part w _ _ p 4 _ (HS4.out.sel [1, 0] (by decide))).mono ?_
        rintro e w5 ⟨rfl, hs⟩
        have HS5 := Aside0.mk hs
        clear hs HS4 x0_ x1_ x4_
        go_wp2_with fail
        refine (disk_Read.part w _ _ p 4 _ (b : Int) (HS5.out.sel [0, 1] (by decide))).mono ?_
        rintro e w9 ⟨v2, rfl, hs⟩
        rw [if_pos HB.out, Int.toNat_natCast, X.DS.read_flush HOK.out] at hs
        rw [if_pos HB.out]
        obtain ⟨A7, c7, rfl, -, -⟩ := row_str hs 0 rfl
        have hb7 := row_conv hs 0 rfl
        have ha7 := row_conv hs 2 rfl
        have HF := Aside0.mk (hs.sel [1] (by decide))
        clear hs
        go_wp2_with fail
        cases gk with
        | zero => exact absurd HK.out (by omega)
        | succ k1 =>
          go_roundg k1
          case measure => omega
          case rel => exact ⟨i + 1, by have := HLL.out; rw [show wrap64 ((i : Int) + 1) = ((i + 1 : Nat) : Int) from by unfold wrap64; omega], ⟨by have := HK.out; omega⟩, s.flush, ⟨by have := HPN.out; have := X.DS.flush_pend s; omega⟩, HF⟩
      · go_wp2_with fail
        refine (disk_Settle.part w _ _ p 4 _ A4 c4 x4 (HS4.out.sel [1, 0] (by decide)) (X.Rd.arg HC4.out) HCC.out (by have := HPN.out; have := HLL.out; omega)).mono ?_
        rintro e w5 ⟨rfl, hs⟩
        have HS5 := Aside0.mk hs
        clear hs HS4 x0_ x1_ x4_
        go_wp2_with fail
        refine (disk_Read.part w _ _ p 4 _ (b : Int) (HS5.out.sel [0, 1] (by decide))).mono ?_
        rintro e w9 ⟨v2, rfl, hs⟩
        rw [if_pos HB.out, Int.toNat_natCast, X.DS.read_settle HOK.out] at hs
        rw [if_pos HB.out]
        obtain ⟨A7, c7, rfl, -, -⟩ := row_str hs 0 rfl
        have hb7 := row_conv hs 0 rfl
        have ha7 := row_conv hs 2 rfl
        have HF := Aside0.mk (hs.sel [1] (by decide))
        clear hs
        go_wp2_with fail
        cases gk with
        | zero => exact absurd HK.out (by omega)
        | succ k1 =>
          go_roundg k1
          case measure => omega
          case rel => exact ⟨i + 1, by have := HLL.out; rw [show wrap64 ((i : Int) + 1) = ((i + 1 : Nat) : Int) from by unfold wrap64; omega], ⟨by have := HK.out; omega⟩, s.settle x4, ⟨by have := HPN.out; have := X.DS.settle_pend s x4; omega⟩, HF⟩
      · have q1 : ((q : Int) == 1) = false := beq_eq_false_iff_ne.mpr (by omega)
        have q2 : ((q : Int) == 2) = false := beq_eq_false_iff_ne.mpr (by omega)
        by_cases hyb : y = b
        · subst hyb
          go_wp2_with fail
          have HF := Aside0.mk (HS4.out.sel [1] (by decide))
          clear HS4
          cases gk with
          | zero => exact absurd HK.out (by omega)
          | succ k1 =>
            go_roundg k1
            case measure => omega
            case rel => exact ⟨i + 1, by have := HLL.out; rw [show wrap64 ((i : Int) + 1) = ((i + 1 : Nat) : Int) from by unfold wrap64; omega], ⟨by have := HK.out; omega⟩, s, ⟨by have := HPN.out; omega⟩, HF⟩
        · have q3 : ((y : Int) == (b : Int)) = false := beq_eq_false_iff_ne.mpr (by omega)
          have HC4a : Aside0 ((Kd.int .u8).C w4.drew A4 x4.length x4) := ⟨Kd.C_below HC4.out HS4.out.drew.below⟩
          go_wp2_with fail
          refine start_ (n := 6) (S := (fun w' => X.Blk w' gb #[.int .i64 x0, .int .i64 (y : Int), .int .u8 x2, .bool false, .slice A4 x4.length c4] 24)) (ds := []) #[false, false, false, false, false, false] (by kernel_rfl) rfl rfl (HS4.out.drew.boxed 2 rfl) (fun hHeld => ?_)
          have HSa := Aside0.mk (HS4.out.drew)
          generalize World.drew _ = wa at *
          clear HS4
          refine pure_ (i := 0) (N := some 68) (v := ?_) (a' := ?_) #[true, false, false, false, false, false] rfl rfl (by kernel_rfl) (fun _ _ _ h => h) (Or.inl ⟨by rfl, ?_⟩) ?_ ?_
          rotate_left
          · intro w' 
            go_simp
            with_reducible rfl
          rotate_left
          · simp only [Act.put, List.setIfInBounds_toArray, List.set_cons_zero, List.set_cons_succ, i64_w, i32_w]
            rfl
          refine pure_ (i := 1) (N := some 69) (v := ?_) (a' := ?_) #[true, true, false, false, false, false] rfl rfl (by kernel_rfl) (fun _ _ _ h => h) (Or.inl ⟨by rfl, ?_⟩) ?_ ?_
          rotate_left
          · intro w' 
            go_simp
            with_reducible rfl
          rotate_left
          · simp only [Act.put, List.setIfInBounds_toArray, List.set_cons_zero, List.set_cons_succ, i64_w, i32_w]
            rfl
          refine take_ (i := 2) (N := some 70) (v := .int .i64 (y : Int)) (a' := ?_) #[true, true, true, false, false, false] rfl rfl (by kernel_rfl) (fun _ _ _ h => h) (Or.inl ⟨by rfl, ?_⟩) hHeld ?_ ?_
          · intro w' hs_
            exact (by have x1_ := hs_.cell 1 _ rfl; go_simp; done)
          rotate_left
          · simp only [Act.put, List.setIfInBounds_toArray, List.set_cons_zero, List.set_cons_succ, i64_w, i32_w]
            rfl
          refine take_ (i := 3) (N := some 71) (v := .agg #[.int .i64 x0, .int .i64 (y : Int), .int .u8 x2, .bool false, .slice A4 x4.length c4]) (a' := ?_) #[true, true, true, true, false, false] rfl rfl (by kernel_rfl) (fun _ _ _ h => h) (Or.inl ⟨by rfl, ?_⟩) hHeld ?_ ?_
          · intro w' hs_
            exact X.load_exec 24 (.tmp 9) (by rfl) gb 0 (by rfl) [.int .i64 x0, .int .i64 (y : Int), .int .u8 x2, .bool false, .slice A4 x4.length c4] _ (blk_range hs_) Try.underlying24 rfl info_deed
          rotate_left
          · simp only [Act.put, List.setIfInBounds_toArray, List.set_cons_zero, List.set_cons_succ, i64_w, i32_w]
            rfl
          refine one_ (i := 4) (N := some 72) #[true, true, true, true, true, false] rfl rfl (by kernel_rfl) (by decide) (fun K hK => ?_)
          refine goes_ Try.func13 (by kernel_rfl) rfl #[.agg #[.int .i64 x0, .int .i64 (y : Int), .int .u8 x2, .bool false, .slice A4 x4.length c4]] (by rfl) rfl rfl (by (try simp only [List.map_toArray, List.map_cons, List.map_nil]); first | done | rfl) ?_
          refine (data_part w _ x0 (y : Int) x2 false A4 c4 x4 wa HSa.out HC4a.out HCC.out).mono ?_
          rintro e wb ⟨gd, cd, rfl, hcd, hs⟩
          have HSb := Aside0.mk hs
          have HCD := Aside0.mk hcd
          refine ⟨_, rfl, ?_⟩
          clear hs hcd HSa hHeld
          refine hK.out _ _ (HSb.out.boxed 3 rfl) (fun hHeld => ?_)
          clear hK K
          refine norm_ (a' := ?_) ?_ ?_
          rotate_left
          · show Act.put _ (some 72) _ = _
            simp only [Act.put, List.setIfInBounds_toArray, List.set_cons_zero, List.set_cons_succ, i64_w, i32_w]
            rfl
          refine one_ (i := 5) (N := some 73) #[true, true, true, true, true, true] rfl rfl (by kernel_rfl) (by decide) (fun K hK => ?_)
          refine goes_ Try.func14 (by kernel_rfl) rfl #[.pointer (some ⟨p, 0, none⟩), .int .i64 (y : Int), .slice (some ⟨gd, 0, none⟩) (dataN false) cd] (by rfl) rfl rfl (by (try simp only [List.map_toArray, List.map_cons, List.map_nil]); first | done | rfl) ?_
          refine (write_data w wb _ p 4 s (y : Int) gd cd x2 false (HSb.out.sel [2, 0, 1, 3] (by decide)) HCD.out (by have := HPN.out; have := HLL.out; omega)).mono ?_
          rintro e w5 ⟨rfl, hs⟩
          rw [put_ok HY4.out (by rw [dataL_len]; rfl)] at hs
          have HS5 := Aside0.mk (hs.sel [0, 2, 3] (by decide))
          have HX5 := Aside0.mk (hs.boxed 3 rfl)
          refine ⟨_, rfl, ?_⟩
          clear hs HSb hHeld
          refine hK.out _ _ HX5.out (fun hHeld => ?_)
          clear hK K
          refine norm_ (a' := ?_) ?_ ?_
          rotate_left
          · show Act.put _ (some 73) _ = _
            simp only [Act.put, List.setIfInBounds_toArray, List.set_cons_zero, List.set_cons_succ, i64_w, i32_w]
            rfl
          refine done_ (by kernel_rfl) ?_
          clear HX5 x0_ x1_ x4_
          go_wp2_with fail
          refine (disk_Read.part w _ _ p 4 _ (b : Int) (HS5.out.sel [0, 1] (by decide))).mono ?_
          rintro e w9 ⟨v2, rfl, hs⟩
          rw [if_pos HB.out, Int.toNat_natCast, X.DS.read_other s (Ne.symm hyb)] at hs
          rw [if_pos HB.out]
          obtain ⟨A7, c7, rfl, -, -⟩ := row_str hs 0 rfl
          have hb7 := row_conv hs 0 rfl
          have ha7 := row_conv hs 2 rfl
          have HF := Aside0.mk (hs.sel [1] (by decide))
          clear hs
          go_wp2_with fail
          cases gk with
          | zero => exact absurd HK.out (by omega)
          | succ k1 =>
            go_roundg k1
            case measure => omega
            case rel => exact ⟨i + 1, by have := HLL.out; rw [show wrap64 ((i : Int) + 1) = ((i + 1 : Nat) : Int) from by unfold wrap64; omega], ⟨by have := HK.out; omega⟩, s.write y (dataL x2 (dataN false)), ⟨by have := HPN.out; have := X.DS.write_pend s y (dataL x2 (dataN false)); omega⟩, HF⟩
    · have q0 : decide ((i : Int) < (l.length : Int)) = false := decide_eq_false (by omega)
      have q00 : decide (i < l.length) = false := decide_eq_false hlt
      have HB9 := Aside0.mk HS.out.below
      clear HS HK HPN
      go_wp2
      go_ret
      exact ⟨rfl, HB9.out⟩

end Go.Proofs.Ytbpkjkdbijifbaa.U
