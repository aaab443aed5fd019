/- Written by uprint.py (ours) for this seat: functions of the translation as Lean functions, and what their calls do. Not trusted: Lean checks it. -/
import Derived.Test.YtbpkjkdbijifbaaUx0
import Derived.Test.YtbpkjkdbijifbaaUx1
import Derived.Test.YtbpkjkdbijifbaaUx2
import Derived.Test.YtbpkjkdbijifbaaUx4
import Derived.Test.YtbpkjkdbijifbaaUx5
import Derived.Test.YtbpkjkdbijifbaaUx6
import Derived.Test.YtbpkjkdbijifbaaUx8
import Derived.Test.YtbpkjkdbijifbaaUx10
import Derived.Test.YtbpkjkdbijifbaaUx11
import Derived.Test.YtbpkjkdbijifbaaUx12
import Derived.Test.YtbpkjkdbijifbaaUx13
import Derived.Test.YtbpkjkdbijifbaaUx15
import Derived.Test.YtbpkjkdbijifbaaUx18
import Derived.Test.YtbpkjkdbijifbaaUx26
import Derived.Test.YtbpkjkdbijifbaaUx27
namespace Go.Proofs.Ytbpkjkdbijifbaa.U
open Go.RowKit Go.Proofs.YtbpkjkdbijifbaaW.PrintWords Go.Proofs.YtbpkjkdbijifbaaW.PrintLast Go.Proofs.YtbpkjkdbijifbaaW.PrintMore
attribute [local go_sem] max2_int min2_int max_two min_two max_three min_three max_four min_four   -- for this text's walks alone
set_option linter.unusedVariables false
set_option linter.unusedSimpArgs false

-- GIVEN: function 30 ((*undercroft/undercroftref02.Disk).Image)
set_option maxHeartbeats 4000000 in
set_option maxRecDepth 100000 in
theorem undercroftref02_Disk_Image.calls (w0 w : World) (L : List X.Res) (p n : Nat) (s : X.DS) (h : X.Lies w0 w (.rdisk p n s :: L)) (hpl : s.pend.length ≤ 500000000000) (hgl : s.ghosts.length ≤ 500000000000) :
    Calls Try.prog 30 #[.pointer (some ⟨p, 0, none⟩)] w fun e w' => ∃ v, e = .returned v ∧ X.Lies w0 w' (.row (Kd.int .u8) 5 v (imageTo s n) :: .rdisk p n s :: L) := by
  have hok := h.rdisk_ok 0 rfl
  have hn2 := hok.n2
  have HOK := Aside0.mk hok
  have HS := Aside0.mk (h.newRow (Below.refl _ _) (Kd.R_nil (Kd.int .u8) 5 _ _ _))
  clear h hok
  go_enter Try.func30, Try.ntmps30
  go_wp2_with fail
  go_loopg [3, 4, 5, 6] n (fun gk v3 v4 v5 v6 w' => ∃ i : Nat, v4 = .int .i64 (i : Int) ∧ Aside0 (gk + i = n) ∧ Aside0 (X.Lies w0 w' (.row (Kd.int .u8) 5 v3 (imageTo s i) :: .rdisk p n s :: L)))
  case atStart => exact ⟨0, rfl, ⟨by omega⟩, HS⟩
  case round =>
    clear HS
    obtain ⟨i, rfl, HK, HS⟩ := hrel
    obtain ⟨A3, c3, e3, -, -⟩ := Kd.R_reads (HS.out.rowed 0 rfl).choose_spec
    generalize hl3 : (imageTo s i).length = l3 at e3
    subst e3
    rw [imageTo_length HOK.out i (by have := HK.out; omega)] at hl3
    subst hl3
    have HSZ := Aside0.mk (undercroftref02_Disk_Size.calls w0 wr _ p n s (HS.out.perm [1, 0] 2 (by decide) (by decide)))
    by_cases hlt : i < n
    · have q3 : decide ((i : Int) < (n : Int)) = true := decide_eq_true (by omega)
      have q33 : decide (i < n) = true := decide_eq_true hlt
      have hb : hasB (i : Int) n = true := decide_eq_true ⟨by omega, by omega⟩
      have HBB := Aside0.mk hb
      have HRL := Aside0.mk (HOK.out.read hlt)
      clear hb
      go_wp2_with fail
      refine HSZ.out.mono ?_
      rintro e w' ⟨rfl, rfl⟩
      clear HSZ
      go_wp2_with fail
      refine (undercroftref02_Disk_Read.calls w0 wr _ p n s (i : Int) (HS.out.perm [1, 0] 2 (by decide) (by decide)) hpl hgl).mono ?_
      rintro e w6 ⟨v, rfl, hs⟩
      rw [if_pos HBB.out, Int.toNat_natCast] at hs
      rw [if_pos HBB.out]
      obtain ⟨A5, c5, e5, -, -⟩ := Kd.R_reads (hs.rowed 0 rfl).choose_spec
      rw [HRL.out.1] at e5
      subst e5
      have HC5 := Aside0.mk (hs.rowC 0 rfl).1
      obtain ⟨ok, hR, hfr, hadd⟩ := (hs.perm [2, 1] 3 (by decide) (by decide)).grown1
      have HR5 := Aside0.mk hR
      have HFR := Aside0.mk hfr
      have HAD : Aside0 (∀ v1 w1, (Kd.int .u8).R 5 w1 0 ok v1 (imageTo s i ++ s.read i) → w6.grownBy w1 (Value.slice A3 (256 * i) c3).ownBlock → X.Lies w0 w1 (.row (Kd.int .u8) 5 v1 (imageTo s (i + 1)) :: .rdisk p n s :: L)) := ⟨fun v1 w1 h1 h2 => by rw [imageTo_succ]; exact hadd h1 h2⟩
      have HIL := Aside0.mk (imageTo_length HOK.out i (by omega))
      clear hs hR hfr hadd HS
      go_wp2_with ((with_reducible refine gate_builtin (b := .append) (xs := #[.tmp 19, .tmp 20]) rfl ?_); at_builtin; refine Kd.R_append_row (Value.int .u8) (0 : Int) (w0 := w6) 0 rfl (.tmp 19) (.tmp 20) 22 5 (.int .u8 0) 1 rfl Try.underlying22 info5 rfl (by decide) _ (imageTo s i) (s.read i) A5 256 c5 ok rfl rfl HFR.out HR5.out HC5.out (Below.refl 0 _) (Nat.zero_le _) (by rw [HIL.out]; omega) ?_; intro v7 w7 ho7 hb7 hg7 hat7; have HS7 := Aside0.mk (HAD.out v7 w7 ho7 hg7); clear ho7 hb7 hg7 hat7)
      cases gk with
      | zero => exact absurd HK.out (by omega)
      | succ k1 =>
        go_roundg k1
        case measure => omega
        case rel => exact ⟨i + 1, by go_num, ⟨by have := HK.out; omega⟩, HS7⟩
    · have q3 : decide ((i : Int) < (n : Int)) = false := decide_eq_false (by omega)
      have q33 : decide (i < n) = false := decide_eq_false hlt
      obtain rfl : i = n := by have := HK.out; omega
      clear HK hlt
      go_wp2_with fail
      refine HSZ.out.mono ?_
      rintro e w' ⟨rfl, rfl⟩
      clear HSZ
      go_wp2
      go_ret
      exact ⟨_, rfl, HS.out⟩

-- NOT PRINTED: function 8 (undercroftlaw02_DiskRuns)

/-! ### undercroftlaw02_DiskNone: function 9 (given) -/
def undercroftlaw02_DiskNone.f (a0_0 a0_1 a0_2 : Int) (a0_3 : Bool) (l0_4 : List Int) : Option Bool := some true
set_option maxHeartbeats 4000000 in
set_option maxRecDepth 100000 in
theorem undercroftlaw02_DiskNone.calls (a0_0 : Int) (a0_1 : Int) (a0_2 : Int) (a0_3 : Bool) (A0_4 : Option Addr) (c0_4 : Nat) (l0_4 : List Int) (r : Bool) (w : World) (hr0_4 : Kd.C (Kd.int .u8) w A0_4 l0_4.length l0_4) (hc0_4 : l0_4.length ≤ c0_4) (h : undercroftlaw02_DiskNone.f a0_0 a0_1 a0_2 a0_3 l0_4 = some r) :
    Calls Try.prog 9 #[.agg #[.int .i64 a0_0, .int .i64 a0_1, .int .u8 a0_2, .bool a0_3, .slice A0_4 l0_4.length c0_4]] w fun e w' => e = .returned (.bool r) ∧ Below w.heap.size w w' := by
  obtain rfl := Option.some.inj h
  clear h
  have HR0 : Aside0 (∀ w', Below w.heap.size w w' → Kd.C (Kd.int .u8) w' A0_4 l0_4.length l0_4) := ⟨fun w' hb => Kd.C_below hr0_4 hb⟩
  have HC := Aside0.mk hc0_4
  clear hr0_4 hc0_4
  go_enter Try.func9, Try.ntmps9
  go_wp2_with fail
  have HB0 : Aside0 (Below w.heap.size w (w.alloc (.cells #[.int .i64 a0_0, .int .i64 a0_1, .int .u8 a0_2, .bool a0_3, .slice A0_4 l0_4.length c0_4] 24))) := ⟨(Below.refl _ _).alloc (Nat.le_refl _) _⟩
  have HX0 := Aside0.mk (X.Blk.new w #[.int .i64 a0_0, .int .i64 a0_1, .int .u8 a0_2, .bool a0_3, .slice A0_4 l0_4.length c0_4] 24)
  obtain ⟨gb, hgb⟩ : ∃ gb, gb = w.heap.size := ⟨_, rfl⟩
  rw [← hgb] at HX0 ⊢
  generalize w.alloc (.cells #[.int .i64 a0_0, .int .i64 a0_1, .int .u8 a0_2, .bool a0_3, .slice A0_4 l0_4.length c0_4] 24) = w0 at *
  refine (undercroftlaw02_alive.calls true w0 rfl).mono ?_
  rintro e w1 ⟨rfl, hb1⟩
  have HX1 := Aside0.mk (HX0.out.below hb1 HX0.out.lt)
  have HB1 := Aside0.mk (HB0.out.trans (hb1.mono HB0.out.size))
  clear hb1 HX0 HB0 hgb
  have x1_ := HX1.out.cell 1 _ rfl
  go_wp2_with ((go_at_call 22; (with_reducible refine (disk_Read_nil.calls _ _).mono ?_); rintro e w' ⟨rfl, rfl⟩))
  refine start_ (n := 7) (S := (fun w' => X.Blk w' gb #[.int .i64 a0_0, .int .i64 a0_1, .int .u8 a0_2, .bool a0_3, .slice A0_4 l0_4.length c0_4] 24)) (ds := []) #[false, false, false, false, false, false, false] (by kernel_rfl) rfl rfl (HX1.out.below (below_drew1 (Below.refl _ _)) HX1.out.lt) (fun hHeld => ?_)
  have HX3 := Aside0.mk (HX1.out.below (below_drew1 (Below.refl _ _)) HX1.out.lt)
  have HB3 := Aside0.mk (HB1.out.trans (below_drew1 (Below.refl _ _) |>.mono HB1.out.size))
  have HR3 := Aside0.mk (HR0.out _ HB3.out)
  generalize World.drew _ = w3 at *
  clear HX1 HB1 x1_
  refine pure_ (i := 0) (N := some 16) (v := ?_) (a' := ?_) #[true, false, false, false, false, false, false] rfl rfl (by kernel_rfl) (fun _ _ _ h => h) (Or.inl ⟨by rfl, ?_⟩) ?_ ?_
  rotate_left
  · intro w' 
    go_simp
    with_reducible rfl
  rotate_left
  · simp only [Act.put, List.setIfInBounds_toArray, List.set_cons_zero, List.set_cons_succ, i64_w, i32_w]
    rfl
  refine pure_ (i := 1) (N := some 17) (v := ?_) (a' := ?_) #[true, true, false, false, false, false, false] rfl rfl (by kernel_rfl) (fun _ _ _ h => h) (Or.inl ⟨by rfl, ?_⟩) ?_ ?_
  rotate_left
  · intro w' 
    go_simp
    with_reducible rfl
  rotate_left
  · simp only [Act.put, List.setIfInBounds_toArray, List.set_cons_zero, List.set_cons_succ, i64_w, i32_w]
    rfl
  refine take_ (i := 2) (N := some 18) (v := .int .i64 a0_1) (a' := ?_) #[true, true, true, false, false, false, false] rfl rfl (by kernel_rfl) (fun _ _ _ h => h) (Or.inl ⟨by rfl, ?_⟩) hHeld ?_ ?_
  · intro w' hs_
    exact (by have x1_ := hs_.cell 1 _ rfl; go_simp; done)
  rotate_left
  · simp only [Act.put, List.setIfInBounds_toArray, List.set_cons_zero, List.set_cons_succ, i64_w, i32_w]
    rfl
  refine take_ (i := 3) (N := some 19) (v := .agg #[.int .i64 a0_0, .int .i64 a0_1, .int .u8 a0_2, .bool a0_3, .slice A0_4 l0_4.length c0_4]) (a' := ?_) #[true, true, true, true, false, false, false] rfl rfl (by kernel_rfl) (fun _ _ _ h => h) (Or.inl ⟨by rfl, ?_⟩) hHeld ?_ ?_
  · intro w' hs_
    exact X.load_exec 24 (.tmp 1) (by rfl) gb 0 (by rfl) [.int .i64 a0_0, .int .i64 a0_1, .int .u8 a0_2, .bool a0_3, .slice A0_4 l0_4.length c0_4] _ (blk_range hs_) Try.underlying24 rfl info_deed
  rotate_left
  · simp only [Act.put, List.setIfInBounds_toArray, List.set_cons_zero, List.set_cons_succ, i64_w, i32_w]
    rfl
  refine one_ (i := 4) (N := some 20) #[true, true, true, true, true, false, false] rfl rfl (by kernel_rfl) (by decide) (fun K hK => ?_)
  refine goes_ Try.func13 (by kernel_rfl) rfl #[.agg #[.int .i64 a0_0, .int .i64 a0_1, .int .u8 a0_2, .bool a0_3, .slice A0_4 l0_4.length c0_4]] (by rfl) rfl rfl (by (try simp only [List.map_toArray, List.map_cons, List.map_nil]); first | done | rfl) ?_
  refine (data_c a0_0 a0_1 a0_2 a0_3 A0_4 c0_4 l0_4 w3 HR3.out HC.out).mono ?_
  rintro e w4 ⟨g4, c4, rfl, -, -, -, -, hb4⟩
  refine ⟨_, rfl, ?_⟩
  have HX4 := Aside0.mk (HX3.out.below hb4 HX3.out.lt)
  have HB4 := Aside0.mk (HB3.out.trans (hb4.mono HB3.out.size))
  clear HX3 HB3 HR3 hb4 hHeld
  refine hK.out _ _ HX4.out (fun hHeld => ?_)
  clear hK K
  refine norm_ (a' := ?_) ?_ ?_
  rotate_left
  · show Act.put _ (some 20) _ = _
    simp only [Act.put, List.setIfInBounds_toArray, List.set_cons_zero, List.set_cons_succ, i64_w, i32_w]
    rfl
  refine one_ (i := 5) (N := some 21) #[true, true, true, true, true, true, false] rfl rfl (by kernel_rfl) (by decide) (fun K hK => ?_)
  refine goes_ Try.func14 (by kernel_rfl) rfl #[.pointer none, .int .i64 a0_1, .slice (some ⟨g4, 0, none⟩) (dataN a0_3) c4] (by rfl) rfl rfl (by (try simp only [List.map_toArray, List.map_cons, List.map_nil]); first | done | rfl) ?_
  refine (disk_Write_nil.calls a0_1 (some ⟨g4, 0, none⟩) (dataN a0_3) c4 w4).mono ?_
  rintro e w5 ⟨rfl, rfl⟩
  refine ⟨_, rfl, ?_⟩
  refine hK.out _ _ HX4.out (fun hHeld => ?_)
  clear hK K
  refine norm_ (a' := ?_) ?_ ?_
  rotate_left
  · show Act.put _ (some 21) _ = _
    simp only [Act.put, List.setIfInBounds_toArray, List.set_cons_zero, List.set_cons_succ, i64_w, i32_w]
    rfl
  refine pure_ (i := 6) (N := some 6) (v := ?_) (a' := ?_) #[true, true, true, true, true, true, true] rfl rfl (by kernel_rfl) (fun _ _ _ h => h) (Or.inl ⟨by rfl, ?_⟩) ?_ ?_
  rotate_left
  · intro w' 
    go_simp
    with_reducible rfl
  rotate_left
  · simp only [Act.put, List.setIfInBounds_toArray, List.set_cons_zero, List.set_cons_succ, i64_w, i32_w]
    rfl
  refine done_ (by kernel_rfl) ?_
  have x1_ := HX4.out.cell 1 _ rfl
  have x4_ := HX4.out.cell 4 _ rfl
  go_wp2_with (first | ((go_at_call 23; (with_reducible refine (disk_Flush_nil.calls _).mono ?_); rintro e w' ⟨rfl, rfl⟩)) | ((go_at_call 24; (with_reducible refine (disk_Settle_nil.calls _ _ _ _).mono ?_); rintro e w' ⟨rfl, rfl⟩)) | ((go_at_call 15; (with_reducible refine (disk_Crash_nil.calls _ _ _ _).mono ?_); rintro e w' ⟨rfl, rfl⟩)) | ((go_at_call 25; (with_reducible refine (disk_Fuse_nil.calls _ _).mono ?_); rintro e w' ⟨rfl, rfl⟩)) | ((go_at_call 29; (with_reducible refine (disk_Copy_nil.calls _).mono ?_); rintro e w' ⟨rfl, rfl⟩)) | ((go_at_call 31; (with_reducible refine (disk_Size_nil.calls _).mono ?_); rintro e w' ⟨rfl, rfl⟩)) | ((go_at_call 20; (with_reducible refine (disk_Pending_nil.calls _).mono ?_); rintro e w' ⟨rfl, rfl⟩)) | ((go_at_call 19; (with_reducible refine (disk_Image_nil.calls _).mono ?_); rintro e w' ⟨rfl, rfl⟩)))
  refine (disk_Stable_nil.calls _).mono ?_
  rintro e w5 ⟨v, rfl, ho, hb⟩
  have HB5 := Aside0.mk (HB4.out.trans (hb.mono HB4.out.size))
  obtain ⟨A5, c5, rfl⟩ := Kd.R_slice ho
  clear ho hb HB4 HX4 x1_ x4_
  go_wp2
  go_ret
  exact ⟨rfl, HB5.out⟩

end Go.Proofs.Ytbpkjkdbijifbaa.U
