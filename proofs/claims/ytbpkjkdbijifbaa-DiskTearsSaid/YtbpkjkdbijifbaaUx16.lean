/- Written by uprint.py (ours) for this seat: functions of the translation as Lean functions, and what their calls do. Not trusted: Lean checks it. -/
import Derived.Test.YtbpkjkdbijifbaaUx0
import Derived.Test.YtbpkjkdbijifbaaUx1
import Derived.Test.YtbpkjkdbijifbaaUx2
import Derived.Test.YtbpkjkdbijifbaaUx4
import Derived.Test.YtbpkjkdbijifbaaUx5
import Derived.Test.YtbpkjkdbijifbaaUx6
import Derived.Test.YtbpkjkdbijifbaaUx7
import Derived.Test.YtbpkjkdbijifbaaUx9
import Derived.Test.YtbpkjkdbijifbaaUx10
import Derived.Test.YtbpkjkdbijifbaaUx11
import Derived.Test.YtbpkjkdbijifbaaUx12
import Derived.Test.YtbpkjkdbijifbaaUx15
namespace Go.Proofs.Ytbpkjkdbijifbaa.U
open Go.RowKit Go.Proofs.YtbpkjkdbijifbaaW.PrintWords Go.Proofs.YtbpkjkdbijifbaaW.PrintLast Go.Proofs.YtbpkjkdbijifbaaW.PrintMore
attribute [local go_sem] max2_int min2_int max_two min_two max_three min_three max_four min_four   -- for this text's walks alone
set_option linter.unusedVariables false
set_option linter.unusedSimpArgs false

-- NOT PRINTED: function 30 (undercroftref02_Disk_Image)

-- NOT PRINTED: function 8 (undercroftlaw02_DiskRuns)

/-! ### undercroftlaw02_DiskNone: function 9 (given) -/
theorem info_deed : (Try.prog.info? 24).map (·.size) = some 5 := by kernel_rfl
theorem blk_range {w : World} {g : Nat} {cs : List Value} {t : TypeId} (h : X.Blk w g cs.toArray t) : w.rangeAt g 0 cs := by
  intro j v hj
  rw [Nat.zero_add]
  exact h.cell j v (by simpa using hj)
def undercroftlaw02_DiskNone.f (a0_0 a0_1 a0_2 : Int) (a0_3 : Bool) (l0_4 : List Int) : Option Bool := some true
set_option maxHeartbeats 4000000 in
set_option maxRecDepth 100000 in
theorem undercroftlaw02_DiskNone.calls (a0_0 : Int) (a0_1 : Int) (a0_2 : Int) (a0_3 : Bool) (A0_4 : Option Addr) (c0_4 : Nat) (l0_4 : List Int) (r : Bool) (w : World) (hr0_4 : Kd.C (Kd.int .u8) w A0_4 l0_4.length l0_4) (hc0_4 : l0_4.length ≤ c0_4) (h : undercroftlaw02_DiskNone.f a0_0 a0_1 a0_2 a0_3 l0_4 = some r) :
    Calls Try.prog 9 #[.agg #[.int .i64 a0_0, .int .i64 a0_1, .int .u8 a0_2, .bool a0_3, .slice A0_4 l0_4.length c0_4]] w fun e w' => e = .returned (.bool r) ∧ Below w.heap.size w w' := by
  obtain rfl := Option.some.inj h
  clear h
  have HR0 : Aside0 (∀ w', Below w.heap.size w w' → Kd.C (Kd.int .u8) w' A0_4 l0_4.length l0_4) := ⟨fun w' hb => Kd.C_below hr0_4 hb⟩
  have HC := Aside0.mk hc0_4
  clear hr0_4 hc0_4
  go_enter Try.func9, Try.ntmps9
  go_wp2_with fail
  have HB0 : Aside0 (Below w.heap.size w (w.alloc (.cells #[.int .i64 a0_0, .int .i64 a0_1, .int .u8 a0_2, .bool a0_3, .slice A0_4 l0_4.length c0_4] 24))) := ⟨(Below.refl _ _).alloc (Nat.le_refl _) _⟩
  have HX0 := Aside0.mk (X.Blk.new w #[.int .i64 a0_0, .int .i64 a0_1, .int .u8 a0_2, .bool a0_3, .slice A0_4 l0_4.length c0_4] 24)
  obtain ⟨gb, hgb⟩ : ∃ gb, gb = w.heap.size := ⟨_, rfl⟩
  rw [← hgb] at HX0 ⊢
  generalize w.alloc (.cells #[.int .i64 a0_0, .int .i64 a0_1, .int .u8 a0_2, .bool a0_3, .slice A0_4 l0_4.length c0_4] 24) = w0 at *
  refine (undercroftlaw02_alive.calls true w0 rfl).mono ?_
  rintro e w1 ⟨rfl, hb1⟩
  have HX1 := Aside0.mk (HX0.out.below hb1 HX0.out.lt)
  have HB1 := Aside0.mk (HB0.out.trans (hb1.mono HB0.out.size))
  clear hb1 HX0 HB0 hgb
  have x1_ := HX1.out.cell 1 _ rfl
  go_wp2_with ((go_at_call 22; (with_reducible refine (disk_Read_nil.calls _ _).mono ?_); rintro e w' ⟨rfl, rfl⟩))
  refine start_ (n := 7) (S := (fun w' => X.Blk w' gb #[.int .i64 a0_0, .int .i64 a0_1, .int .u8 a0_2, .bool a0_3, .slice A0_4 l0_4.length c0_4] 24)) (ds := []) #[false, false, false, false, false, false, false] (by kernel_rfl) rfl rfl (HX1.out.below (below_drew1 (Below.refl _ _)) HX1.out.lt) (fun hHeld => ?_)
  have HX3 := Aside0.mk (HX1.out.below (below_drew1 (Below.refl _ _)) HX1.out.lt)
  have HB3 := Aside0.mk (HB1.out.trans (below_drew1 (Below.refl _ _) |>.mono HB1.out.size))
  have HR3 := Aside0.mk (HR0.out _ HB3.out)
  generalize World.drew _ = w3 at *
  clear HX1 HB1 x1_
  refine pure_ (i := 0) (N := some 16) (v := ?_) (a' := ?_) #[true, false, false, false, false, false, false] rfl rfl (by kernel_rfl) (fun _ _ _ h => h) (Or.inl ⟨by rfl, ?_⟩) ?_ ?_
  rotate_left
  · intro w' 
    go_simp
    with_reducible rfl
  rotate_left
  · simp only [Act.put, List.setIfInBounds_toArray, List.set_cons_zero, List.set_cons_succ, i64_w, i32_w]
    rfl
  refine pure_ (i := 1) (N := some 17) (v := ?_) (a' := ?_) #[true, true, false, false, false, false, false] rfl rfl (by kernel_rfl) (fun _ _ _ h => h) (Or.inl ⟨by rfl, ?_⟩) ?_ ?_
  rotate_left
  · intro w' 
    go_simp
    with_reducible rfl
  rotate_left
  · simp only [Act.put, List.setIfInBounds_toArray, List.set_cons_zero, List.set_cons_succ, i64_w, i32_w]
    rfl
  refine take_ (i := 2) (N := some 18) (v := .int .i64 a0_1) (a' := ?_) #[true, true, true, false, false, false, false] rfl rfl (by kernel_rfl) (fun _ _ _ h => h) (Or.inl ⟨by rfl, ?_⟩) hHeld ?_ ?_
  · intro w' hs_
    exact (by have x1_ := hs_.cell 1 _ rfl; go_simp; done)
  rotate_left
  · simp only [Act.put, List.setIfInBounds_toArray, List.set_cons_zero, List.set_cons_succ, i64_w, i32_w]
    rfl
  refine take_ (i := 3) (N := some 19) (v := .agg #[.int .i64 a0_0, .int .i64 a0_1, .int .u8 a0_2, .bool a0_3, .slice A0_4 l0_4.length c0_4]) (a' := ?_) #[true, true, true, true, false, false, false] rfl rfl (by kernel_rfl) (fun _ _ _ h => h) (Or.inl ⟨by rfl, ?_⟩) hHeld ?_ ?_
  · intro w' hs_
    exact X.load_exec 24 (.tmp 1) (by rfl) gb 0 (by rfl) [.int .i64 a0_0, .int .i64 a0_1, .int .u8 a0_2, .bool a0_3, .slice A0_4 l0_4.length c0_4] _ (blk_range hs_) Try.underlying24 rfl info_deed
  rotate_left
  · simp only [Act.put, List.setIfInBounds_toArray, List.set_cons_zero, List.set_cons_succ, i64_w, i32_w]
    rfl
  refine one_ (i := 4) (N := some 20) #[true, true, true, true, true, false, false] rfl rfl (by kernel_rfl) (by decide) (fun K hK => ?_)
  refine goes_ Try.func13 (by kernel_rfl) rfl #[.agg #[.int .i64 a0_0, .int .i64 a0_1, .int .u8 a0_2, .bool a0_3, .slice A0_4 l0_4.length c0_4]] (by rfl) rfl rfl (by (try simp only [List.map_toArray, List.map_cons, List.map_nil]); first | done | rfl) ?_
  refine (data_c a0_0 a0_1 a0_2 a0_3 A0_4 c0_4 l0_4 w3 HR3.out HC.out).mono ?_
  rintro e w4 ⟨g4, c4, rfl, -, -, -, -, hb4⟩
  refine ⟨_, rfl, ?_⟩
  have HX4 := Aside0.mk (HX3.out.below hb4 HX3.out.lt)
  have HB4 := Aside0.mk (HB3.out.trans (hb4.mono HB3.out.size))
  clear HX3 HB3 HR3 hb4 hHeld
  refine hK.out _ _ HX4.out (fun hHeld => ?_)
  clear hK K
  refine norm_ (a' := ?_) ?_ ?_
  rotate_left
  · show Act.put _ (some 20) _ = _
    simp only [Act.put, List.setIfInBounds_toArray, List.set_cons_zero, List.set_cons_succ, i64_w, i32_w]
    rfl
  refine one_ (i := 5) (N := some 21) #[true, true, true, true, true, true, false] rfl rfl (by kernel_rfl) (by decide) (fun K hK => ?_)
  refine goes_ Try.func14 (by kernel_rfl) rfl #[.pointer none, .int .i64 a0_1, .slice (some ⟨g4, 0, none⟩) (dataN a0_3) c4] (by rfl) rfl rfl (by (try simp only [List.map_toArray, List.map_cons, List.map_nil]); first | done | rfl) ?_
  refine (disk_Write_nil.calls a0_1 (some ⟨g4, 0, none⟩) (dataN a0_3) c4 w4).mono ?_
  rintro e w5 ⟨rfl, rfl⟩
  refine ⟨_, rfl, ?_⟩
  refine hK.out _ _ HX4.out (fun hHeld => ?_)
  clear hK K
  refine norm_ (a' := ?_) ?_ ?_
  rotate_left
  · show Act.put _ (some 21) _ = _
    simp only [Act.put, List.setIfInBounds_toArray, List.set_cons_zero, List.set_cons_succ, i64_w, i32_w]
    rfl
  refine pure_ (i := 6) (N := some 6) (v := ?_) (a' := ?_) #[true, true, true, true, true, true, true] rfl rfl (by kernel_rfl) (fun _ _ _ h => h) (Or.inl ⟨by rfl, ?_⟩) ?_ ?_
  rotate_left
  · intro w' 
    go_simp
    with_reducible rfl
  rotate_left
  · simp only [Act.put, List.setIfInBounds_toArray, List.set_cons_zero, List.set_cons_succ, i64_w, i32_w]
    rfl
  refine done_ (by kernel_rfl) ?_
  have x1_ := HX4.out.cell 1 _ rfl
  have x4_ := HX4.out.cell 4 _ rfl
  go_wp2_with (first | ((go_at_call 23; (with_reducible refine (disk_Flush_nil.calls _).mono ?_); rintro e w' ⟨rfl, rfl⟩)) | ((go_at_call 24; (with_reducible refine (disk_Settle_nil.calls _ _ _ _).mono ?_); rintro e w' ⟨rfl, rfl⟩)) | ((go_at_call 15; (with_reducible refine (disk_Crash_nil.calls _ _ _ _).mono ?_); rintro e w' ⟨rfl, rfl⟩)) | ((go_at_call 25; (with_reducible refine (disk_Fuse_nil.calls _ _).mono ?_); rintro e w' ⟨rfl, rfl⟩)) | ((go_at_call 29; (with_reducible refine (disk_Copy_nil.calls _).mono ?_); rintro e w' ⟨rfl, rfl⟩)) | ((go_at_call 31; (with_reducible refine (disk_Size_nil.calls _).mono ?_); rintro e w' ⟨rfl, rfl⟩)) | ((go_at_call 20; (with_reducible refine (disk_Pending_nil.calls _).mono ?_); rintro e w' ⟨rfl, rfl⟩)) | ((go_at_call 19; (with_reducible refine (disk_Image_nil.calls _).mono ?_); rintro e w' ⟨rfl, rfl⟩)))
  refine (disk_Stable_nil.calls _).mono ?_
  rintro e w5 ⟨v, rfl, ho, hb⟩
  have HB5 := Aside0.mk (HB4.out.trans (hb.mono HB4.out.size))
  obtain ⟨A5, c5, rfl⟩ := Kd.R_slice ho
  clear ho hb HB4 HX4 x1_ x4_
  go_wp2
  go_ret
  exact ⟨rfl, HB5.out⟩

-- NOT PRINTED: function 10 (undercroftlaw02_DiskTwins)

end Go.Proofs.Ytbpkjkdbijifbaa.U
