/- Written by uprint.py (ours) for this seat: functions of the translation as Lean functions, and what their calls do. Not trusted: Lean checks it. -/
import Derived.Test.YtkpkmkgmpggjaaaUx0
import Derived.Test.YtkpkmkgmpggjaaaUx5
import Derived.Test.YtkpkmkgmpggjaaaUx7
import Derived.Test.YtkpkmkgmpggjaaaUx8
import Derived.Test.YtkpkmkgmpggjaaaUx11
namespace Go.Proofs.Ytkpkmkgmpggjaaa.U
open Go.RowKit Go.Proofs.YtkpkmkgmpggjaaaW.PrintWords Go.Proofs.YtkpkmkgmpggjaaaW.PrintLast Go.Proofs.YtkpkmkgmpggjaaaW.PrintMore
attribute [local go_sem] max2_int min2_int max_two min_two max_three min_three max_four min_four   -- for this text's walks alone
set_option linter.unusedVariables false
set_option linter.unusedSimpArgs false

/-! ### undercroftlaw09_InodeTurned: function 6 -/
def undercroftlaw09_InodeTurned.l0 : Nat → Int → List Int → Int → Bool → Int → Int → Int → Int → Bool → Int → List Int → Option (Bool)
  | 0, _, _, _, _, _, _, _, _, _, _, _ => none
  | k + 1, x2, x7, x9, x10, x11, x341000, x341001, x341002, x341003, x341004, x341005 => if x11 < 32 then (if 0 ≤ x11 then (if (Go.bits .and .u32 (shr .u32 x2 x11) 1) = 1 then (if (wrap64 (x9 + x11)) < 1024 then (if 0 ≤ (wrap64 (Int.tdiv (wrap64 (x9 + x11)) 8)) then (if (wrap64 (Int.tdiv (wrap64 (x9 + x11)) 8)) < (x7.length : Int) then (if 0 ≤ (Int.tmod (wrap64 (x9 + x11)) 8) then (undercroftlaw09_InodeTurned.l0 k x2 (x7.set ((wrap64 (Int.tdiv (wrap64 (x9 + x11)) 8)) : Int).toNat (Go.bits .xor .u8 (rd x7 (wrap64 (Int.tdiv (wrap64 (x9 + x11)) 8))) (shl .u8 1 (Int.tmod (wrap64 (x9 + x11)) 8)))) x9 true (wrap64 (x11 + 1)) x341000 x341001 x341002 x341003 x341004 x341005) else (none)) else (none)) else (none)) else (undercroftlaw09_InodeTurned.l0 k x2 x7 x9 x10 (wrap64 (x11 + 1)) x341000 x341001 x341002 x341003 x341004 x341005)) else (undercroftlaw09_InodeTurned.l0 k x2 x7 x9 x10 (wrap64 (x11 + 1)) x341000 x341001 x341002 x341003 x341004 x341005)) else (none)) else (if 128 ≤ 281474976710656 then ((some (List.replicate 128 0 : List Int)).bind fun y348 => ((inode_Decode.f k x7 7).bind fun bt351 => (if (strOfNums x7).toList = (strOfNums y348).toList then (if ((strOfNums x7).toList = (strOfNums y348).toList) then (if bt351.2.2.2.2.2.2 = 0 then ((undercroftref09_None.f bt351.1 bt351.2.1 bt351.2.2.1 bt351.2.2.2.1 bt351.2.2.2.2.1 bt351.2.2.2.2.2.1).bind fun t361 => (some t361)) else (some false)) else (some true)) else (if x341000 = 0 then (if ((strOfNums x7).toList = (strOfNums y348).toList) then (if bt351.2.2.2.2.2.2 = 0 then ((undercroftref09_None.f bt351.1 bt351.2.1 bt351.2.2.1 bt351.2.2.2.1 bt351.2.2.2.2.1 bt351.2.2.2.2.2.1).bind fun t362 => (some t362)) else (some false)) else (some true)) else (some ((bt351.2.2.2.2.2.2 == 13) == x10)))))) else (none))
def undercroftlaw09_InodeTurned.j0 : Nat → Int → Int → List Int → Int → Bool → Int → Int → Int → Bool → Int → List Int → Option (Bool)
  | 0, _, _, _, _, _, _, _, _, _, _, _ => none
  | k + 1, x1, x2, x7, x8, x29, x341000, x341001, x341002, x341003, x341004, x341005 => if x29 = true then (some (x8 != 0)) else (undercroftlaw09_InodeTurned.l0 k x2 x7 (wrap64 (Int.tmod (IntKind.u64.wrap (x1)) 1024)) false 0 x341000 x341001 x341002 x341003 x341004 x341005)
def undercroftlaw09_InodeTurned.f (k : Nat) (a0_0 : Int) (a0_1 : Int) (a0_2 : Int) (a0_3 : Bool) (a0_4 : Int) (l0_5 : List Int) (a1 : Int) (a2 : Int) : Option (Bool) := (undercroftlaw09_alive.f k).bind fun t341 => (if t341 = true then ((inode_Encode.f a0_0 a0_1 a0_2 a0_3 a0_4 l0_5 7).bind fun bt342 => (if bt342.2 = 0 then (undercroftlaw09_InodeTurned.j0 k a1 a2 bt342.1 bt342.2 ((bt342.1.length : Int) != 128) a0_0 a0_1 a0_2 a0_3 a0_4 l0_5) else (undercroftlaw09_InodeTurned.j0 k a1 a2 bt342.1 bt342.2 true a0_0 a0_1 a0_2 a0_3 a0_4 l0_5))) else (some false))
theorem undercroftlaw09_InodeTurned.mono_l : ∀ k, (∀ y0 y1 y2 y3 y4 y5 y6 y7 y8 y9 y10, LeO (undercroftlaw09_InodeTurned.j0 k y0 y1 y2 y3 y4 y5 y6 y7 y8 y9 y10) (undercroftlaw09_InodeTurned.j0 (k + 1) y0 y1 y2 y3 y4 y5 y6 y7 y8 y9 y10)) ∧ (∀ y0 y1 y2 y3 y4 y5 y6 y7 y8 y9 y10, LeO (undercroftlaw09_InodeTurned.l0 k y0 y1 y2 y3 y4 y5 y6 y7 y8 y9 y10) (undercroftlaw09_InodeTurned.l0 (k + 1) y0 y1 y2 y3 y4 y5 y6 y7 y8 y9 y10))
  | 0 => ⟨fun _ _ _ _ _ _ _ _ _ _ _ r h => by simp [undercroftlaw09_InodeTurned.j0] at h, fun _ _ _ _ _ _ _ _ _ _ _ r h => by simp [undercroftlaw09_InodeTurned.l0] at h⟩
  | k + 1 => by
    obtain ⟨ih0, ih1⟩ := undercroftlaw09_InodeTurned.mono_l k
    refine ⟨?_, ?_⟩
    · intro y0 y1 y2 y3 y4 y5 y6 y7 y8 y9 y10
      unfold undercroftlaw09_InodeTurned.j0
      repeat' first
      | (with_reducible exact ih0 _ _ _ _ _ _ _ _ _ _ _)
      | (with_reducible exact ih1 _ _ _ _ _ _ _ _ _ _ _)
      | (with_reducible exact inode_Decode.mono _ _ _)
      | (with_reducible exact undercroftlaw09_alive.mono _)
      | (with_reducible exact LeO.refl _)
      | (with_reducible exact LeO.none _)
      | (with_reducible refine LeO.ite ?_ ?_)
      | (with_reducible refine LeO.bind ?_ (fun _ => ?_))
      | exact ih0 _ _ _ _ _ _ _ _ _ _ _
      | exact ih1 _ _ _ _ _ _ _ _ _ _ _
      | exact inode_Decode.mono _ _ _
      | exact undercroftlaw09_alive.mono _
      | exact LeO.none _
      | refine LeO.ite ?_ ?_
      | refine LeO.bind ?_ (fun _ => ?_)
    · intro y0 y1 y2 y3 y4 y5 y6 y7 y8 y9 y10
      unfold undercroftlaw09_InodeTurned.l0
      repeat' first
      | (with_reducible exact ih0 _ _ _ _ _ _ _ _ _ _ _)
      | (with_reducible exact ih1 _ _ _ _ _ _ _ _ _ _ _)
      | (with_reducible exact inode_Decode.mono _ _ _)
      | (with_reducible exact undercroftlaw09_alive.mono _)
      | (with_reducible exact LeO.refl _)
      | (with_reducible exact LeO.none _)
      | (with_reducible refine LeO.ite ?_ ?_)
      | (with_reducible refine LeO.bind ?_ (fun _ => ?_))
      | exact ih0 _ _ _ _ _ _ _ _ _ _ _
      | exact ih1 _ _ _ _ _ _ _ _ _ _ _
      | exact inode_Decode.mono _ _ _
      | exact undercroftlaw09_alive.mono _
      | exact LeO.none _
      | refine LeO.ite ?_ ?_
      | refine LeO.bind ?_ (fun _ => ?_)
theorem undercroftlaw09_InodeTurned.mono : ∀ a0 a1 a2 a3 a4 a5 a6 a7 k, LeO (undercroftlaw09_InodeTurned.f k a0 a1 a2 a3 a4 a5 a6 a7) (undercroftlaw09_InodeTurned.f (k + 1) a0 a1 a2 a3 a4 a5 a6 a7) := by
  intro a0 a1 a2 a3 a4 a5 a6 a7 k
  obtain ⟨ih0, ih1⟩ := undercroftlaw09_InodeTurned.mono_l k
  unfold undercroftlaw09_InodeTurned.f
  repeat' first
      | (with_reducible exact ih0 _ _ _ _ _ _ _ _ _ _ _)
      | (with_reducible exact ih1 _ _ _ _ _ _ _ _ _ _ _)
      | (with_reducible exact inode_Decode.mono _ _ _)
      | (with_reducible exact undercroftlaw09_alive.mono _)
      | (with_reducible exact LeO.refl _)
      | (with_reducible exact LeO.none _)
      | (with_reducible refine LeO.ite ?_ ?_)
      | (with_reducible refine LeO.bind ?_ (fun _ => ?_))
      | exact ih0 _ _ _ _ _ _ _ _ _ _ _
      | exact ih1 _ _ _ _ _ _ _ _ _ _ _
      | exact inode_Decode.mono _ _ _
      | exact undercroftlaw09_alive.mono _
      | exact LeO.none _
      | refine LeO.ite ?_ ?_
      | refine LeO.bind ?_ (fun _ => ?_)
def undercroftlaw09_InodeTurned.T13 : Bool × List (List Nat × List Nat) := (true, [([], []), ([], []), ([1], [1]), ([0, 2], [0, 2]), ([3], [3]), ([], []), ([5], [5]), ([6], [6]), ([4, 7], [4, 7]), ([0, 2, 0, 1, 2, 3, 4, 5, 6, 7, 8], [0, 2]), ([9, 8, 0, 1, 2, 3, 4, 5, 6, 7, 8], [8, 9])])
def undercroftlaw09_InodeTurned.B13 : List Nat := [0, 0, 2, 7, 15, 0, 32, 96, 255, 511, 1023]
theorem undercroftlaw09_InodeTurned.tab13 : rtab .any (opsOf Try.f6 13) = undercroftlaw09_InodeTurned.T13 := by kernel_rfl
theorem undercroftlaw09_InodeTurned.bits13 : waitsOk undercroftlaw09_InodeTurned.T13.2 undercroftlaw09_InodeTurned.B13 = true := by kernel_rfl
set_option maxHeartbeats 8000000 in
set_option maxRecDepth 100000 in
theorem undercroftlaw09_InodeTurned.calls (k : Nat) (a0_0 : Int) (a0_1 : Int) (a0_2 : Int) (a0_3 : Bool) (a0_4 : Int) (A0_5 : Option Addr) (c0_5 : Nat) (l0_5 : List Int) (a1 : Int) (a2 : Int) (r : Bool) (w : World) (hr0_5 : Kd.C (Kd.int .u8) w A0_5 l0_5.length l0_5) (hc0_5 : l0_5.length ≤ c0_5) (h : undercroftlaw09_InodeTurned.f k a0_0 a0_1 a0_2 a0_3 a0_4 l0_5 a1 a2 = some r) (hT : r = true) :
    Calls Try.prog 6 #[.agg #[.int .i64 a0_0, .int .i64 a0_1, .int .i64 a0_2, .bool a0_3, .int .i64 a0_4, .slice A0_5 l0_5.length c0_5], .int .i64 a1, .int .u32 a2] w fun e w' => e = .returned (.bool r) ∧ Below w.heap.size w w' := by
  have hu24 := Try.underlying24
  have HR0_5 := Aside0.mk hr0_5
  have HC0_5 := Aside0.mk hc0_5
  clear hr0_5 hc0_5
  have HB := Aside0.mk (Below.refl w.heap.size w)
  have H : ((undercroftlaw09_alive.f k).bind fun t341 => (if t341 = true then ((inode_Encode.f a0_0 a0_1 a0_2 a0_3 a0_4 l0_5 7).bind fun bt342 => (if bt342.2 = 0 then (undercroftlaw09_InodeTurned.j0 k a1 a2 bt342.1 bt342.2 ((bt342.1.length : Int) != 128) a0_0 a0_1 a0_2 a0_3 a0_4 l0_5) else (undercroftlaw09_InodeTurned.j0 k a1 a2 bt342.1 bt342.2 true a0_0 a0_1 a0_2 a0_3 a0_4 l0_5))) else (some false))) = some r := h
  clear h
  replace H := Option.bind_eq_some_iff.mp H
  obtain ⟨t341, A40, H⟩ := H
  replace H : (if t341 = true then ((inode_Encode.f a0_0 a0_1 a0_2 a0_3 a0_4 l0_5 7).bind fun bt342 => (if bt342.2 = 0 then (undercroftlaw09_InodeTurned.j0 k a1 a2 bt342.1 bt342.2 ((bt342.1.length : Int) != 128) a0_0 a0_1 a0_2 a0_3 a0_4 l0_5) else (undercroftlaw09_InodeTurned.j0 k a1 a2 bt342.1 bt342.2 true a0_0 a0_1 a0_2 a0_3 a0_4 l0_5))) else (some false)) = some r := H
  have A4 := Aside0.mk A40
  clear A40
  by_cases c5 : t341 = true
  · subst c5
    have H1 : ((inode_Encode.f a0_0 a0_1 a0_2 a0_3 a0_4 l0_5 7).bind fun bt342 => (if bt342.2 = 0 then (undercroftlaw09_InodeTurned.j0 k a1 a2 bt342.1 bt342.2 ((bt342.1.length : Int) != 128) a0_0 a0_1 a0_2 a0_3 a0_4 l0_5) else (undercroftlaw09_InodeTurned.j0 k a1 a2 bt342.1 bt342.2 true a0_0 a0_1 a0_2 a0_3 a0_4 l0_5))) = some r := by rw [if_pos rfl] at H; exact H
    clear H
    have H := H1
    clear H1
    replace H := Option.bind_eq_some_iff.mp H
    obtain ⟨⟨t342, t345⟩, A60, H⟩ := H
    replace H : (if t345 = 0 then (undercroftlaw09_InodeTurned.j0 k a1 a2 t342 t345 ((t342.length : Int) != 128) a0_0 a0_1 a0_2 a0_3 a0_4 l0_5) else (undercroftlaw09_InodeTurned.j0 k a1 a2 t342 t345 true a0_0 a0_1 a0_2 a0_3 a0_4 l0_5)) = some r := H
    have A6 := Aside0.mk A60
    clear A60
    have HC7 := Aside0.mk H
    clear H
    go_enter Try.func6, Try.ntmps6
    go_upto_region 4 with (first | ((with_reducible refine gate_dst (N := 3) rfl ?_); (try (refine gate_guard (by rfl) ?_; dsimp only)); refine box_event ?hg (N := 3) ?hd (cs := #[.int .i64 a0_0, .int .i64 a0_1, .int .i64 a0_2, .bool a0_3, .int .i64 a0_4, .slice A0_5 l0_5.length c0_5]) (t := 24) ?hr ?_; (case hd => rfl); (case hg => rfl); (case hr => first | (go_simp; done) | (go_simp; rfl)); intro gb340 hg w8 hbox hb; have n0_ := Aside0.mk (below_step (by repeat (first | (with_reducible first | exact HB.out | apply below_alloc | apply pw_below_drewN | apply below_drew1) | exact HB.out)) hb); have n1_ := Aside0.mk (hbox); have n2_ := Aside0.mk ((by rw [hg]; exact (below_size (by repeat (first | (with_reducible first | exact HB.out | apply below_alloc | apply pw_below_drewN | apply below_drew1) | exact HB.out))) : w.heap.size ≤ gb340)); have n3_ := Aside0.mk ((by rw [hg]; exact (below_size (by repeat (first | (with_reducible first | exact HB.out | apply below_alloc | apply pw_below_drewN | apply below_drew1) | exact HB.out))) : w.heap.size ≤ gb340)); clear HB; have HB := n0_; have BK340 := n1_; have GW340 := n2_; have GE340 := n3_; clear n0_ n1_ n2_ n3_; clear hb hbox hg) | ((with_reducible refine gate_callee (f := 8) rfl ?_); refine goesL_ (some 16) rfl rfl Try.func8 (by kernel_rfl) rfl #[] rfl (by (try simp only [List.map_toArray, List.map_cons, List.map_nil]); first | done | rfl | (simp only [List.length_drop, List.length_take]; rfl)) ?_; (with_reducible refine (undercroftlaw09_alive.calls k  true _ A4.out rfl).mono ?_); rintro e w9 ⟨rfl, hb⟩; refine ⟨_, rfl, ?_⟩; have n0_ := Aside0.mk (blk_below (g := gb340) (o := .cells #[.int .i64 a0_0, .int .i64 a0_1, .int .i64 a0_2, .bool a0_3, .int .i64 a0_4, .slice A0_5 l0_5.length c0_5] 24 (0, 0)) (by (with_reducible repeat (first | refine blk_drewN ?_ _ | refine blk_drew ?_ | refine blk_alloc ?_ _)); exact BK340.out) hb); have n1_ := Aside0.mk (below_step (by repeat (first | (with_reducible first | exact HB.out | apply below_alloc | apply pw_below_drewN | apply below_drew1 | refine below_set ?_ GE340.out) | exact HB.out)) hb); clear BK340; clear HB; have BK340 := n0_; have HB := n1_; clear n0_ n1_; (try clear hb); (try clear hb2); (try clear hk); (try clear hi); have hcz10_0 : w9.cell? ⟨gb340, 0, none⟩ = some (.int .i64 a0_0) := (blk_cell BK340.out 0).trans rfl; have hcz10_1 : w9.cell? ⟨gb340, 1, none⟩ = some (.int .i64 a0_1) := (blk_cell BK340.out 1).trans rfl; have hcz10_2 : w9.cell? ⟨gb340, 2, none⟩ = some (.int .i64 a0_2) := (blk_cell BK340.out 2).trans rfl; have hcz10_3 : w9.cell? ⟨gb340, 3, none⟩ = some (.bool a0_3) := (blk_cell BK340.out 3).trans rfl; have hcz10_4 : w9.cell? ⟨gb340, 4, none⟩ = some (.int .i64 a0_4) := (blk_cell BK340.out 4).trans rfl; have hcz10_5 : w9.cell? ⟨gb340, 5, none⟩ = some (.slice A0_5 l0_5.length c0_5) := (blk_cell BK340.out 5).trans rfl; have hfz10_0 := blk_frozen BK340.out 0; have hfz10_1 := blk_frozen BK340.out 1; have hfz10_2 := blk_frozen BK340.out 2; have hfz10_3 := blk_frozen BK340.out 3; have hfz10_4 := blk_frozen BK340.out 4; have hfz10_5 := blk_frozen BK340.out 5) | ((with_reducible refine gate_callee (f := 10) rfl ?_); refine goesL_ (some 20) rfl rfl Try.func10 (by kernel_rfl) rfl #[.agg #[.int .i64 a0_0, .int .i64 a0_1, .int .i64 a0_2, .bool a0_3, .int .i64 a0_4, .slice A0_5 l0_5.length c0_5], .int .i64 7] rfl (by (try simp only [List.map_toArray, List.map_cons, List.map_nil]); first | done | rfl | (simp only [List.length_drop, List.length_take]; rfl)) ?_; (with_reducible refine (inode_Encode.calls a0_0 a0_1 a0_2 a0_3 a0_4 _ _ l0_5 7 t342 t345 _ ?side1 ?side2 A6.out).mono ?_); (case side1 => repeat (first | exact (Kd.C_below HR0_5.out HB.out) | (with_reducible refine Kd.C_alloc ?_ _) | (with_reducible refine Kd.C_drewN ?_ _) | (with_reducible refine Kd.C_drew ?_))); (case side2 => exact HC0_5.out); rintro e w11 ⟨v343, rfl, ho0, hb⟩; refine ⟨_, rfl, ?_⟩; have n0_ := Aside0.mk (Kd.R_lower ho0 (below_size (by repeat (first | (with_reducible first | exact HB.out | apply below_alloc | apply pw_below_drewN | apply below_drew1 | refine below_set ?_ GE340.out) | exact HB.out)))); have n1_ := Aside0.mk (blk_below (g := gb340) (o := .cells #[.int .i64 a0_0, .int .i64 a0_1, .int .i64 a0_2, .bool a0_3, .int .i64 a0_4, .slice A0_5 l0_5.length c0_5] 24 (0, 0)) (by (with_reducible repeat (first | refine blk_drewN ?_ _ | refine blk_drew ?_ | refine blk_alloc ?_ _)); exact BK340.out) hb); have n2_ := Aside0.mk (below_step (by repeat (first | (with_reducible first | exact HB.out | apply below_alloc | apply pw_below_drewN | apply below_drew1 | refine below_set ?_ GE340.out) | exact HB.out)) hb); clear BK340; clear HB; have HO344 := n0_; have BK340 := n1_; have HB := n2_; clear n0_ n1_ n2_; (try clear hb); (try clear hb2); (try clear hk); (try clear hi); (try clear ho0)))
    (try simp only [Act.put, List.setIfInBounds_toArray, List.set_cons_zero, List.set_cons_succ])
    go_cut [29] (fun v29 wc => ∃ (kq : Nat) (x29_6 : Bool), v29 = .bool x29_6 ∧ Aside0 (undercroftlaw09_InodeTurned.j0 kq a1 a2 t342 t345 x29_6 a0_0 a0_1 a0_2 a0_3 a0_4 l0_5 = some r) ∧ Aside0 (kq ≤ k) ∧ Aside0 (Kd.R (Kd.int .u8) 5 wc w.heap.size (fun _ => True) v343 t342) ∧ Aside0 (wc.heap[gb340]? = some (.cells #[.int .i64 a0_0, .int .i64 a0_1, .int .i64 a0_2, .bool a0_3, .int .i64 a0_4, (.slice A0_5 l0_5.length c0_5)] 24 (0, 0))) ∧ Aside0 (Below w.heap.size w wc))
    case first =>
      have H := HC7.out
      clear HC7
      by_cases c12 : t345 = 0
      rotate_left
      · rw [if_neg c12] at H
        have c12b0 : (t345 == 0) = false := beq_eq_false_iff_ne.mpr c12
        have c12b1 : (t345 != 0) = true := bne_iff_ne.mpr c12
        (first | rw [c12b0] | (simp only [i64_w, i32_w]; rw [c12b0]) | skip)
        have H' := Aside0.mk H
        clear H
        go_wp2
        go_meet
        case rel => exact ⟨_, (true), (by first | rfl | (simp; done) | (simp [*]; done)), H', ⟨by first | omega | exact Nat.le_refl _⟩, ⟨by (with_reducible repeat (first | apply Kd.R_alloc | apply Kd.R_drewN | apply Kd.R_drew)); exact HO344.out⟩, ⟨by (with_reducible repeat (first | refine blk_drewN ?_ _ | refine blk_drew ?_ | refine blk_alloc ?_ _)); exact BK340.out⟩, ⟨by repeat (first | (with_reducible first | exact HB.out | apply below_alloc | apply pw_below_drewN | apply below_drew1 | refine below_set ?_ GE340.out) | exact HB.out)⟩⟩
      rw [if_pos c12] at H
      have c12b0 : (t345 == 0) = true := beq_iff_eq.mpr c12
      have c12b1 : (t345 != 0) = false := bne_eq_false_iff_eq.mpr c12
      clear c12
      (first | rw [c12b0] | (simp only [i64_w, i32_w]; rw [c12b0]) | skip)
      have H' := Aside0.mk H
      clear H
      obtain ⟨Ao13, co13, eo13⟩ := Kd.R_slice HO344.out
      subst eo13
      go_wp2
      go_meet
      case rel => exact ⟨_, (((t342.length : Int) != 128)), (by first | rfl | (simp; done) | (simp [*]; done)), H', ⟨by first | omega | exact Nat.le_refl _⟩, ⟨by (with_reducible repeat (first | apply Kd.R_alloc | apply Kd.R_drewN | apply Kd.R_drew)); exact HO344.out⟩, ⟨by (with_reducible repeat (first | refine blk_drewN ?_ _ | refine blk_drew ?_ | refine blk_alloc ?_ _)); exact BK340.out⟩, ⟨by repeat (first | (with_reducible first | exact HB.out | apply below_alloc | apply pw_below_drewN | apply below_drew1 | refine below_set ?_ GE340.out) | exact HB.out)⟩⟩
    case rest =>
      clear HC7
      try clear c1
      try clear p2
      try clear c5
      try clear c6
      try clear c8
      try clear c10
      try clear c12
      try clear c12b0
      try clear c12b1
      try clear hcz10_0
      try clear hcz10_1
      try clear hcz10_2
      try clear hcz10_3
      try clear hcz10_4
      try clear hcz10_5
      try clear hfz10_0
      try clear hfz10_1
      try clear hfz10_2
      try clear hfz10_3
      try clear hfz10_4
      try clear hfz10_5
      obtain ⟨kq, x29_6, rfl, HA, HJ6, HO_7, BK340, HB⟩ := hcut
      cases kq with
      | zero => exact absurd HA.out (by simp [undercroftlaw09_InodeTurned.j0])
      | succ kj6 =>
        have H := HA.out
        clear HA
        simp only [undercroftlaw09_InodeTurned.j0] at H
        by_cases c14 : x29_6 = true
        · subst c14
          have H1 : (some (t345 != 0)) = some r := by rw [if_pos rfl] at H; exact H
          clear H
          have H := H1
          clear H1
          obtain rfl := Option.some.inj H
          go_wp2
          go_ret
          exact ⟨by first | rfl | (simp [errW_none, errW_some] <;> rfl) | (simp [*, errW_none, errW_some] <;> rfl), by repeat (first | (with_reducible first | exact HB.out | apply below_alloc | apply pw_below_drewN | apply below_drew1 | refine below_set ?_ GE340.out) | exact HB.out)⟩
        replace c14 := Bool.eq_false_iff.mpr c14
        subst c14
        have H1 : (undercroftlaw09_InodeTurned.l0 kj6 a2 t342 (wrap64 (Int.tmod (IntKind.u64.wrap (a1)) 1024)) false 0 a0_0 a0_1 a0_2 a0_3 a0_4 l0_5) = some r := by rw [if_neg (show ¬ (false = true) by decide)] at H; exact H
        clear H
        have H := H1
        clear H1
        have H' := Aside0.mk H
        clear H
        go_wp2
        go_loopg [10, 11] kj6 (fun kq v10 v11 w' => ∃ (x7_2 : List Int) (x10_2 : Bool) (x11_2 : Int), v10 = .bool x10_2 ∧ v11 = .int .i64 x11_2 ∧ Aside0 (undercroftlaw09_InodeTurned.l0 kq a2 x7_2 (wrap64 (Int.tmod (IntKind.u64.wrap (a1)) 1024)) x10_2 x11_2 a0_0 a0_1 a0_2 a0_3 a0_4 l0_5 = some r) ∧ Aside0 (kq ≤ kj6) ∧ Aside0 (Kd.R (Kd.int .u8) 5 w' w.heap.size (fun _ => True) v343 x7_2) ∧ Aside0 (w'.heap[gb340]? = some (.cells #[.int .i64 a0_0, .int .i64 a0_1, .int .i64 a0_2, .bool a0_3, .int .i64 a0_4, (.slice A0_5 l0_5.length c0_5)] 24 (0, 0))) ∧ Aside0 (Below w.heap.size w w'))
        case atStart => exact ⟨(t342), (false), (0), (by first | rfl | (simp; done) | (simp [*]; done)), (by first | rfl | (simp; done) | (simp [*]; done)), H', ⟨Nat.le_refl _⟩, ⟨by (with_reducible repeat (first | apply Kd.R_alloc | apply Kd.R_drewN | apply Kd.R_drew)); exact HO_7.out⟩, ⟨by (with_reducible repeat (first | refine blk_drewN ?_ _ | refine blk_drew ?_ | refine blk_alloc ?_ _)); exact BK340.out⟩, ⟨by repeat (first | (with_reducible first | exact HB.out | apply below_alloc | apply pw_below_drewN | apply below_drew1 | refine below_set ?_ GE340.out) | exact HB.out)⟩⟩
        case round =>
          clear H'
          try clear c1
          try clear p2
          try clear c5
          try clear c6
          try clear p6
          try clear c8
          try clear c10
          try clear c12
          try clear c12b0
          try clear c12b1
          try clear c14
          try clear hcz10_0
          try clear hcz10_1
          try clear hcz10_2
          try clear hcz10_3
          try clear hcz10_4
          try clear hcz10_5
          try clear hfz10_0
          try clear hfz10_1
          try clear hfz10_2
          try clear hfz10_3
          try clear hfz10_4
          try clear hfz10_5
          try clear p2
          obtain ⟨x7_2, x10_2, x11_2, rfl, rfl, HA, HK2, HO_7, BK340, HB⟩ := hrel
          cases gk with
          | zero => exact absurd HA.out (by simp [undercroftlaw09_InodeTurned.l0])
          | succ k2 =>
            have H := HA.out
            clear HA
            simp only [undercroftlaw09_InodeTurned.l0] at H
            by_cases c15 : x11_2 < 32
            · rw [if_pos c15] at H
              have c15b0 : decide (x11_2 < 32) = true := decide_eq_true c15
              clear c15
              by_cases c16 : 0 ≤ x11_2
              rotate_left
              · rw [if_neg c16] at H
                exact absurd H (by simp)
              rw [if_pos c16] at H
              have c16b0 := eq_true c16
              have c16b1 : decide (0 ≤ x11_2) = true := decide_eq_true c16
              clear c16
              obtain ⟨ji17, hji17⟩ : ∃ j_ : Int, (shr .u32 a2 x11_2) = j_ := ⟨_, rfl⟩
              replace H : (if (Go.bits .and .u32 (ji17) 1) = 1 then (if (wrap64 ((wrap64 (Int.tmod (IntKind.u64.wrap (a1)) 1024)) + x11_2)) < 1024 then (if 0 ≤ (wrap64 (Int.tdiv (wrap64 ((wrap64 (Int.tmod (IntKind.u64.wrap (a1)) 1024)) + x11_2)) 8)) then (if (wrap64 (Int.tdiv (wrap64 ((wrap64 (Int.tmod (IntKind.u64.wrap (a1)) 1024)) + x11_2)) 8)) < (x7_2.length : Int) then (if 0 ≤ (Int.tmod (wrap64 ((wrap64 (Int.tmod (IntKind.u64.wrap (a1)) 1024)) + x11_2)) 8) then (undercroftlaw09_InodeTurned.l0 k2 a2 (x7_2.set ((wrap64 (Int.tdiv (wrap64 ((wrap64 (Int.tmod (IntKind.u64.wrap (a1)) 1024)) + x11_2)) 8)) : Int).toNat (Go.bits .xor .u8 (rd x7_2 (wrap64 (Int.tdiv (wrap64 ((wrap64 (Int.tmod (IntKind.u64.wrap (a1)) 1024)) + x11_2)) 8))) (shl .u8 1 (Int.tmod (wrap64 ((wrap64 (Int.tmod (IntKind.u64.wrap (a1)) 1024)) + x11_2)) 8)))) (wrap64 (Int.tmod (IntKind.u64.wrap (a1)) 1024)) true (wrap64 (x11_2 + 1)) a0_0 a0_1 a0_2 a0_3 a0_4 l0_5) else (none)) else (none)) else (none)) else (undercroftlaw09_InodeTurned.l0 k2 a2 x7_2 (wrap64 (Int.tmod (IntKind.u64.wrap (a1)) 1024)) x10_2 (wrap64 (x11_2 + 1)) a0_0 a0_1 a0_2 a0_3 a0_4 l0_5)) else (undercroftlaw09_InodeTurned.l0 k2 a2 x7_2 (wrap64 (Int.tmod (IntKind.u64.wrap (a1)) 1024)) x10_2 (wrap64 (x11_2 + 1)) a0_0 a0_1 a0_2 a0_3 a0_4 l0_5)) = some r := by first | (rw [hji17] at H; exact H) | (simp only [hji17] at H ⊢; exact H)
              have hji17_ : (a2 / 2 ^ min x11_2.toNat 32) = ji17 := hji17
              have hji17z : x11_2 ≤ 32 → (a2 / 2 ^ x11_2.toNat) = ji17 := shr_small hji17
              by_cases c18 : (Go.bits .and .u32 (ji17) 1) = 1
              rotate_left
              · rw [if_neg c18] at H
                have c18b0 : ((Go.bits .and .u32 (ji17) 1) == 1) = false := beq_eq_false_iff_ne.mpr c18
                have c18b1 : ((Go.bits .and .u32 (ji17) 1) != 1) = true := bne_iff_ne.mpr c18
                have H' := Aside0.mk H
                clear H
                go_wp2
                go_roundg k2
                case measure => have := HJ6.out; have := HK2.out; omega
                case rel => exact ⟨(x7_2), (x10_2), (wrap64 (x11_2 + 1)), (by first | rfl | (simp; done) | (simp [*]; done)), (by first | rfl | (simp; done) | (simp [*]; done)), H', ⟨by have := HJ6.out; have := HK2.out; omega⟩, ⟨by (with_reducible repeat (first | apply Kd.R_alloc | apply Kd.R_drewN | apply Kd.R_drew)); exact HO_7.out⟩, ⟨by (with_reducible repeat (first | refine blk_drewN ?_ _ | refine blk_drew ?_ | refine blk_alloc ?_ _)); exact BK340.out⟩, ⟨by repeat (first | (with_reducible first | exact HB.out | apply below_alloc | apply pw_below_drewN | apply below_drew1 | refine below_set ?_ GE340.out) | exact HB.out)⟩⟩
              rw [if_pos c18] at H
              have c18b0 : ((Go.bits .and .u32 (ji17) 1) == 1) = true := beq_iff_eq.mpr c18
              have c18b1 : ((Go.bits .and .u32 (ji17) 1) != 1) = false := bne_eq_false_iff_eq.mpr c18
              clear c18
              by_cases c19 : (wrap64 ((wrap64 (Int.tmod (IntKind.u64.wrap (a1)) 1024)) + x11_2)) < 1024
              rotate_left
              · rw [if_neg c19] at H
                have c19b0 : decide ((wrap64 ((wrap64 (Int.tmod (IntKind.u64.wrap (a1)) 1024)) + x11_2)) < 1024) = false := decide_eq_false c19
                clear c19
                have H' := Aside0.mk H
                clear H
                go_wp2
                go_roundg k2
                case measure => have := HJ6.out; have := HK2.out; omega
                case rel => exact ⟨(x7_2), (x10_2), (wrap64 (x11_2 + 1)), (by first | rfl | (simp; done) | (simp [*]; done)), (by first | rfl | (simp; done) | (simp [*]; done)), H', ⟨by have := HJ6.out; have := HK2.out; omega⟩, ⟨by (with_reducible repeat (first | apply Kd.R_alloc | apply Kd.R_drewN | apply Kd.R_drew)); exact HO_7.out⟩, ⟨by (with_reducible repeat (first | refine blk_drewN ?_ _ | refine blk_drew ?_ | refine blk_alloc ?_ _)); exact BK340.out⟩, ⟨by repeat (first | (with_reducible first | exact HB.out | apply below_alloc | apply pw_below_drewN | apply below_drew1 | refine below_set ?_ GE340.out) | exact HB.out)⟩⟩
              rw [if_pos c19] at H
              have c19b0 : decide ((wrap64 ((wrap64 (Int.tmod (IntKind.u64.wrap (a1)) 1024)) + x11_2)) < 1024) = true := decide_eq_true c19
              clear c19
              obtain ⟨ji20, hji20⟩ : ∃ j_ : Int, (wrap64 (Int.tdiv (wrap64 ((wrap64 (Int.tmod (IntKind.u64.wrap (a1)) 1024)) + x11_2)) 8)) = j_ := ⟨_, rfl⟩
              replace H : (if 0 ≤ (ji20) then (if (ji20) < (x7_2.length : Int) then (if 0 ≤ (Int.tmod (wrap64 ((wrap64 (Int.tmod (IntKind.u64.wrap (a1)) 1024)) + x11_2)) 8) then (undercroftlaw09_InodeTurned.l0 k2 a2 (x7_2.set ((ji20) : Int).toNat (Go.bits .xor .u8 (rd x7_2 (ji20)) (shl .u8 1 (Int.tmod (wrap64 ((wrap64 (Int.tmod (IntKind.u64.wrap (a1)) 1024)) + x11_2)) 8)))) (wrap64 (Int.tmod (IntKind.u64.wrap (a1)) 1024)) true (wrap64 (x11_2 + 1)) a0_0 a0_1 a0_2 a0_3 a0_4 l0_5) else (none)) else (none)) else (none)) = some r := by first | (rw [hji20] at H; exact H) | (simp only [hji20] at H ⊢; exact H)
              have hji20w : (IntKind.i64.wrap (Int.tdiv (wrap64 ((wrap64 (Int.tmod (IntKind.u64.wrap (a1)) 1024)) + x11_2)) 8)) = ji20 := (i64_w _).trans hji20
              by_cases c21 : 0 ≤ (ji20)
              rotate_left
              · rw [if_neg c21] at H
                exact absurd H (by simp)
              rw [if_pos c21] at H
              have c21b0 : decide (0 ≤ (ji20)) = true := decide_eq_true c21
              clear c21
              by_cases c22 : (ji20) < (x7_2.length : Int)
              rotate_left
              · rw [if_neg c22] at H
                exact absurd H (by simp)
              rw [if_pos c22] at H
              have c22b0 : decide ((ji20) < (x7_2.length : Int)) = true := decide_eq_true c22
              clear c22
              obtain ⟨ji23, hji23⟩ : ∃ j_ : Int, (Int.tmod (wrap64 ((wrap64 (Int.tmod (IntKind.u64.wrap (a1)) 1024)) + x11_2)) 8) = j_ := ⟨_, rfl⟩
              replace H : (if 0 ≤ (ji23) then (undercroftlaw09_InodeTurned.l0 k2 a2 (x7_2.set ((ji20) : Int).toNat (Go.bits .xor .u8 (rd x7_2 (ji20)) (shl .u8 1 (ji23)))) (wrap64 (Int.tmod (IntKind.u64.wrap (a1)) 1024)) true (wrap64 (x11_2 + 1)) a0_0 a0_1 a0_2 a0_3 a0_4 l0_5) else (none)) = some r := by first | (rw [hji23] at H; exact H) | (simp only [hji23] at H ⊢; exact H)
              by_cases c24 : 0 ≤ (ji23)
              rotate_left
              · rw [if_neg c24] at H
                exact absurd H (by simp)
              rw [if_pos c24] at H
              have c24b0 := eq_true c24
              have c24b1 : decide (0 ≤ (ji23)) = true := decide_eq_true c24
              clear c24
              obtain ⟨ji25, hji25⟩ : ∃ j_ : Int, (shl .u8 1 (ji23)) = j_ := ⟨_, rfl⟩
              replace H : (undercroftlaw09_InodeTurned.l0 k2 a2 (x7_2.set ((ji20) : Int).toNat (Go.bits .xor .u8 (rd x7_2 (ji20)) (ji25))) (wrap64 (Int.tmod (IntKind.u64.wrap (a1)) 1024)) true (wrap64 (x11_2 + 1)) a0_0 a0_1 a0_2 a0_3 a0_4 l0_5) = some r := by first | (rw [hji25] at H; exact H) | (simp only [hji25] at H ⊢; exact H)
              have hji25_ : (IntKind.u8.wrap (1 * 2 ^ min (ji23).toNat 8)) = ji25 := hji25
              have hji25z : (ji23) ≤ 8 → (IntKind.u8.wrap (1 * 2 ^ (ji23).toNat)) = ji25 := shl_small hji25
              have hji25u : (IntKind.u8.wrap (2 ^ min (ji23).toNat 8)) = ji25 := by have h_ := hji25_; rw [Int.one_mul] at h_; exact h_
              have hji25v : (ji23) ≤ 8 → (IntKind.u8.wrap (2 ^ (ji23).toNat)) = ji25 := fun hle_ => by have h_ := hji25z hle_; rw [Int.one_mul] at h_; exact h_
              obtain ⟨y347, hy347⟩ : ∃ y_ : List Int, y_ = (x7_2.set ((ji20) : Int).toNat (Go.bits .xor .u8 (rd x7_2 (ji20)) (ji25))) := ⟨_, rfl⟩
              replace H : (undercroftlaw09_InodeTurned.l0 k2 a2 y347 (wrap64 (Int.tmod (IntKind.u64.wrap (a1)) 1024)) true (wrap64 (x11_2 + 1)) a0_0 a0_1 a0_2 a0_3 a0_4 l0_5) = some r := by first | (rw [hy347]; with_reducible exact H) | (have H2_ := (Option.bind_some _ _).symm.trans H; rw [hy347]; with_reducible exact H2_) | (have H2_ := (Option.bind_some _ _).symm.trans H; with_reducible exact H2_) | with_reducible exact H | (rw [hy347]; exact H) | exact H
              have Ny347 := Aside0.mk hy347
              clear hy347
              have H' := Aside0.mk H
              clear H
              try go_wp2
              have n0_ := Aside0.mk (Kd.R_drew HO_7.out)
              have n1_ := Aside0.mk (blk_drew BK340.out)
              have n2_ := Aside0.mk (below_drew1 HB.out)
              clear HO_7
              clear BK340
              clear HB
              have HO_7 := n0_
              have BK340 := n1_
              have HB := n2_
              clear n0_ n1_ n2_
              obtain ⟨Ao28, co28, eo28⟩ := Kd.R_slice HO_7.out
              (first | subst eo28 | (injection eo28 with f1_ f2_ f3_; have f4_ := f1_.symm; have f5_ := f3_.symm; clear f1_ f2_ f3_; subst f4_; subst f5_))
              have p346 : 0 ≤ ((ji20) : Int) := of_decide_eq_true (by first | (with_reducible assumption) | assumption)
              have q346 : (ji20) < (x7_2.length : Int) := of_decide_eq_true (by first | (with_reducible assumption) | assumption)
              obtain ⟨ad346, e346, hx346_0⟩ := Kd.at_int (Kd.R_reads' HO_7.out).2.2 (ji20) p346 q346
              cases e346
              replace p346 := eq_true p346
              replace q346 := eq_true q346
              have p26 : 0 ≤ ((ji20) : Int) := of_decide_eq_true (by first | (with_reducible assumption) | assumption)
              have q26 : ((ji20) : Int) < ((x7_2.length : Int) : Int) := of_decide_eq_true (by first | (with_reducible assumption) | assumption)
              obtain ⟨go26, co26, eo26, gb26, gl26, cl26, HG26⟩ := Kd.R_form HO_7.out (by omega)
              (first | cases eo26 | (injection eo26 with ea_ en_ ec_; (first | subst ea_ | (injection ea_ with ea_; subst ea_)); subst ec_; clear en_))
              have GB26 := Aside0.mk gb26
              have GG26 := Aside0.mk HG26
              clear gb26 gl26 HG26
              (first | simp only [add_plain] at hx346_0 | skip)
              obtain ⟨hx26_0, hf26_0⟩ := Kd.R_celln 0 HO_7.out ((ji20) : Int) p26 q26
              replace p26 := eq_true p26
              replace q26 := eq_true q26
              have HP29 := Kd.R_putn HO_7.out ((ji20) : Int) (Go.bits .xor .u8 (rd x7_2 (ji20)) (ji25))
              rw [← Ny347.out] at HP29
              have HQ29 := Aside0.mk HP29
              clear HP29
              refine start_ (n := 11) (S := fun w' => w'.cell? ⟨go26, ((ji20)).toNat, none⟩ = some (.int .u8 (rd x7_2 (ji20)))) (ds := [10]) #[false, false, false, false, false, false, false, false, false, false, false] (by kernel_rfl) rfl rfl (hx346_0) (fun hHeld => ?_); refine with_tabW undercroftlaw09_InodeTurned.tab13 undercroftlaw09_InodeTurned.bits13 (fun HT_ HW_ => ?_)
              generalize wr.drew = w27 at HO_7 BK340 HB GG26 HQ29 hf26_0 hx26_0 hx346_0 hHeld ⊢
              refine pure_ (i := 0) (N := some 52) (v := ?_) (a' := ?_) #[true, false, false, false, false, false, false, false, false, false, false] rfl rfl (any_of HT_.out (by kernel_rfl)) (fun _ _ _ h => h) (Or.inl ⟨by rfl, ?_⟩) ?_ ?_
              rotate_left
              · intro w'
                go_simp
                with_reducible rfl
              rotate_left
              · simp only [Act.put, List.setIfInBounds_toArray, List.set_cons_zero, List.set_cons_succ, i64_w, i32_w]
                rfl
              refine pure_ (i := 1) (N := some 53) (v := ?_) (a' := ?_) #[true, true, false, false, false, false, false, false, false, false, false] rfl rfl (any_of HT_.out (by kernel_rfl)) (fun _ _ _ h => h) (Or.inl ⟨by rfl, ?_⟩) ?_ ?_
              rotate_left
              · intro w'
                go_simp
                with_reducible rfl
              rotate_left
              · simp only [Act.put, List.setIfInBounds_toArray, List.set_cons_zero, List.set_cons_succ, i64_w, i32_w]
                rfl
              refine pure_ (i := 2) (N := some 54) (v := ?_) (a' := ?_) #[true, true, true, false, false, false, false, false, false, false, false] rfl rfl (any_of HT_.out (by kernel_rfl)) (fun _ _ _ h => h) (Or.inl ⟨by rfl, ?_⟩) ?_ ?_
              rotate_left
              · intro w'
                go_simp
                with_reducible rfl
              rotate_left
              · simp only [Act.put, List.setIfInBounds_toArray, List.set_cons_zero, List.set_cons_succ, i64_w, i32_w]
                rfl
              refine pure_ (i := 3) (N := some 55) (v := ?_) (a' := ?_) #[true, true, true, true, false, false, false, false, false, false, false] rfl rfl (any_of HT_.out (by kernel_rfl)) (fun _ _ _ h => h) (Or.inl ⟨by rfl, ?_⟩) ?_ ?_
              rotate_left
              · intro w'
                go_simp
                with_reducible rfl
              rotate_left
              · simp only [Act.put, List.setIfInBounds_toArray, List.set_cons_zero, List.set_cons_succ, i64_w, i32_w]
                rfl
              refine pure_ (i := 5) (N := some 57) (v := ?_) (a' := ?_) #[true, true, true, true, false, true, false, false, false, false, false] rfl rfl (any_of HT_.out (by kernel_rfl)) (fun _ _ _ h => h) (Or.inl ⟨by rfl, ?_⟩) ?_ ?_
              rotate_left
              · intro w'
                go_simp
                with_reducible rfl
              rotate_left
              · simp only [Act.put, List.setIfInBounds_toArray, List.set_cons_zero, List.set_cons_succ, i64_w, i32_w]
                rfl
              refine pure_ (i := 6) (N := some 58) (v := ?_) (a' := ?_) #[true, true, true, true, false, true, true, false, false, false, false] rfl rfl (any_of HT_.out (by kernel_rfl)) (fun _ _ _ h => h) (Or.inl ⟨by rfl, ?_⟩) ?_ ?_
              rotate_left
              · intro w'
                go_simp
                with_reducible rfl
              rotate_left
              · simp only [Act.put, List.setIfInBounds_toArray, List.set_cons_zero, List.set_cons_succ, i64_w, i32_w]
                rfl
              refine pure_ (i := 7) (N := some 59) (v := ?_) (a' := ?_) #[true, true, true, true, false, true, true, true, false, false, false] rfl rfl (any_of HT_.out (by kernel_rfl)) (fun _ _ _ h => h) (Or.inl ⟨by rfl, ?_⟩) ?_ ?_
              rotate_left
              · intro w'
                go_simp
                with_reducible rfl
              rotate_left
              · simp only [Act.put, List.setIfInBounds_toArray, List.set_cons_zero, List.set_cons_succ, i64_w, i32_w]
                rfl
              refine take_ (i := 4) (N := some 56) (v := ?_) (a' := ?_) #[true, true, true, true, true, true, true, true, false, false, false] rfl rfl (take_ofW HT_.out HW_.out (by kernel_rfl)) (fun _ _ _ h => h) (Or.inl ⟨by rfl, ?_⟩) hHeld ?_ ?_
              rotate_left
              · intro w' s0
                go_simp
                with_reducible rfl
              rotate_left
              · simp only [Act.put, List.setIfInBounds_toArray, List.set_cons_zero, List.set_cons_succ, i64_w, i32_w]
                rfl
              refine pure_ (i := 8) (N := some 60) (v := ?_) (a' := ?_) #[true, true, true, true, true, true, true, true, true, false, false] rfl rfl (any_of HT_.out (by kernel_rfl)) (fun _ _ _ h => h) (Or.inl ⟨by rfl, ?_⟩) ?_ ?_
              rotate_left
              · intro w'
                go_simp
                with_reducible rfl
              rotate_left
              · simp only [Act.put, List.setIfInBounds_toArray, List.set_cons_zero, List.set_cons_succ, i64_w, i32_w]
                rfl
              refine pure_ (i := 9) (N := some 61) (v := ?_) (a' := ?_) #[true, true, true, true, true, true, true, true, true, true, false] rfl rfl (any_of HT_.out (by kernel_rfl)) (fun _ _ _ h => h) (Or.inl ⟨by rfl, ?_⟩) ?_ ?_
              rotate_left
              · intro w'
                go_simp
                with_reducible rfl
              rotate_left
              · simp only [Act.put, List.setIfInBounds_toArray, List.set_cons_zero, List.set_cons_succ, i64_w, i32_w]
                rfl
              refine last_ (i := 10) (N := none) #[true, true, true, true, true, true, true, true, true, true, true] rfl rfl (one_of HT_.out (by kernel_rfl)) (by decide) (fun K hK => ?_)
              refine skip_ (w1 := ?_) (by rfl) rfl ?_ ?_
              rotate_left
              · go_simp
                rfl
              refine hK.out _ _ ?_
              clear hK K
              refine done_ (done_of HT_.out (by kernel_rfl)) ?_
              try go_wp2
              go_roundg k2
              case measure => have := HJ6.out; have := HK2.out; omega
              case rel => exact ⟨(y347), (true), (wrap64 (x11_2 + 1)), (by first | rfl | (simp; done) | (simp [*]; done)), (by first | rfl | (simp; done) | (simp [*]; done)), H', ⟨by have := HJ6.out; have := HK2.out; omega⟩, ⟨by (with_reducible repeat (first | apply Kd.R_alloc | apply Kd.R_drewN | apply Kd.R_drew)); exact HQ29.out⟩, ⟨by (with_reducible repeat (first | refine blk_drewN ?_ _ | refine blk_drew ?_ | refine blk_alloc ?_ _)); refine blk_far ?_ (by have h_ := Kd.R_ne HO_7.out BK340.out (by decide); intro e_; exact h_ (by rw [e_]; rfl)) _; (with_reducible repeat (first | refine blk_drewN ?_ _ | refine blk_drew ?_ | refine blk_alloc ?_ _)); exact BK340.out⟩, ⟨by repeat (first | (with_reducible first | exact HB.out | apply below_alloc | apply pw_below_drewN | apply below_drew1 | refine below_set ?_ GB26.out | refine below_set ?_ GE340.out) | exact HB.out)⟩⟩
            rw [if_neg c15] at H
            have c15b0 : decide (x11_2 < 32) = false := decide_eq_false c15
            clear c15
            by_cases c30 : 128 ≤ 281474976710656
            rotate_left
            · rw [if_neg c30] at H
              exact absurd H (by simp)
            rw [if_pos c30] at H
            have c30b0 := eq_true c30
            have c30b1 : decide (128 ≤ 281474976710656) = true := decide_eq_true c30
            clear c30
            obtain ⟨y348, hy348⟩ : ∃ y_ : List Int, y_ = (List.replicate 128 0) := ⟨_, rfl⟩
            replace H : ((inode_Decode.f k2 x7_2 7).bind fun bt351 => (if (strOfNums x7_2).toList = (strOfNums y348).toList then (if ((strOfNums x7_2).toList = (strOfNums y348).toList) then (if bt351.2.2.2.2.2.2 = 0 then ((undercroftref09_None.f bt351.1 bt351.2.1 bt351.2.2.1 bt351.2.2.2.1 bt351.2.2.2.2.1 bt351.2.2.2.2.2.1).bind fun t361 => (some t361)) else (some false)) else (some true)) else (if a0_0 = 0 then (if ((strOfNums x7_2).toList = (strOfNums y348).toList) then (if bt351.2.2.2.2.2.2 = 0 then ((undercroftref09_None.f bt351.1 bt351.2.1 bt351.2.2.1 bt351.2.2.2.1 bt351.2.2.2.2.1 bt351.2.2.2.2.2.1).bind fun t362 => (some t362)) else (some false)) else (some true)) else (some ((bt351.2.2.2.2.2.2 == 13) == x10_2))))) = some r := by first | (rw [hy348]; with_reducible exact H) | (have H2_ := (Option.bind_some _ _).symm.trans H; rw [hy348]; with_reducible exact H2_) | (have H2_ := (Option.bind_some _ _).symm.trans H; with_reducible exact H2_) | with_reducible exact H | (rw [hy348]; exact H) | exact H
            have Ny348 := Aside0.mk hy348
            clear hy348
            replace H := Option.bind_eq_some_iff.mp H
            obtain ⟨⟨t351, t352, t353, t354, t355, t356, t359⟩, A310, H⟩ := H
            replace H : (if (strOfNums x7_2).toList = (strOfNums y348).toList then (if ((strOfNums x7_2).toList = (strOfNums y348).toList) then (if t359 = 0 then ((undercroftref09_None.f t351 t352 t353 t354 t355 t356).bind fun t361 => (some t361)) else (some false)) else (some true)) else (if a0_0 = 0 then (if ((strOfNums x7_2).toList = (strOfNums y348).toList) then (if t359 = 0 then ((undercroftref09_None.f t351 t352 t353 t354 t355 t356).bind fun t362 => (some t362)) else (some false)) else (some true)) else (some ((t359 == 13) == x10_2)))) = some r := H
            have A31 := Aside0.mk A310
            clear A310
            by_cases c32 : (strOfNums x7_2).toList = (strOfNums y348).toList
            · rw [if_pos c32] at H
              have c32b0 : ((strOfNums x7_2).toList == (strOfNums y348).toList) = true := beq_iff_eq.mpr c32
              have c32b1 : ((strOfNums x7_2).toList != (strOfNums y348).toList) = false := bne_eq_false_iff_eq.mpr c32
              clear c32
              by_cases c33 : ((strOfNums x7_2).toList = (strOfNums y348).toList)
              rotate_left
              · rw [if_neg c33] at H
                have c33b0 : ((strOfNums x7_2).toList == (strOfNums y348).toList) = false := beq_eq_false_iff_ne.mpr c33
                exact absurd (c32b0.symm.trans c33b0) (by decide)
              rw [if_pos c33] at H
              have c33b0 : ((strOfNums x7_2).toList == (strOfNums y348).toList) = true := beq_iff_eq.mpr c33
              have c33b1 : ((strOfNums x7_2).toList != (strOfNums y348).toList) = false := bne_eq_false_iff_eq.mpr c33
              clear c33
              by_cases c34 : t359 = 0
              rotate_left
              · rw [if_neg c34] at H
                have c34b0 : (t359 == 0) = false := beq_eq_false_iff_ne.mpr c34
                have c34b1 : (t359 != 0) = true := bne_iff_ne.mpr c34
                exact absurd (Option.some.inj H) (by rw [hT]; decide)
              rw [if_pos c34] at H
              have c34b0 : (t359 == 0) = true := beq_iff_eq.mpr c34
              have c34b1 : (t359 != 0) = false := bne_eq_false_iff_eq.mpr c34
              clear c34
              replace H := Option.bind_eq_some_iff.mp H
              obtain ⟨t361, A350, H⟩ := H
              replace H : (some t361) = some r := H
              have A35 := Aside0.mk A350
              clear A350
              obtain rfl := Option.some.inj H
              try go_wp2
              have n0_ := Aside0.mk (Kd.R_drew HO_7.out)
              have n1_ := Aside0.mk (blk_drew BK340.out)
              have n2_ := Aside0.mk (below_drew1 HB.out)
              clear HO_7
              clear BK340
              clear HB
              have HO_7 := n0_
              have BK340 := n1_
              have HB := n2_
              clear n0_ n1_ n2_
              have hcv37 := own_string (P := Try.prog) Try.underlying22 Try.underlying5 Try.underlying9 (Kd.own_of_R HO_7.out)
              have hcd38 := fun (nd_ : Nat) => own_string (P := Try.prog) Try.underlying22 Try.underlying5 Try.underlying9 (Kd.own_of_R (Kd.R_drewN HO_7.out nd_))
              obtain ⟨hcv37T, hcv37H⟩ : ∃ T_ : World → Prop, T_ = X.cvS hcv37 := ⟨_, rfl⟩
              replace hcv37H := Aside0.mk hcv37H
              refine start_ (n := 6) (S := fun w' => True ∧ hcv37T w') (ds := []) #[false, false, false, false, false, false] (by kernel_rfl) rfl rfl ⟨trivial, (by rw [hcv37H.out]; exact own_string (P := Try.prog) Try.underlying22 Try.underlying5 Try.underlying9 (Kd.own_of_R HO_7.out))⟩ (fun hHeld => ?_)
              generalize wr.drew = w36 at HO_7 BK340 HB hHeld ⊢
              first
                | (refine pure_ (i := 0) (N := some 62) (v := ?_) (a' := ?_) #[true, false, false, false, false, false] rfl rfl (by kernel_rfl) (fun _ _ _ h => h) (Or.inl ⟨by rfl, ?_⟩) ?_ ?_
                   rotate_left
                   · intro w'
                     go_simp
                     with_reducible rfl)
                | (refine take_ (i := 0) (N := some 62) (v := ?_) (a' := ?_) #[true, false, false, false, false, false] rfl rfl (by kernel_rfl) (fun _ _ _ h => h) (Or.inl ⟨by rfl, ?_⟩) hHeld ?_ ?_
                   rotate_left
                   · rintro w' ⟨_, cv0_⟩
                     rw [hcv37H.out] at cv0_; unfold X.cvS at cv0_
                     go_simp
                     with_reducible rfl)
              rotate_left
              · simp only [Act.put, List.setIfInBounds_toArray, List.set_cons_zero, List.set_cons_succ, i64_w, i32_w]
                rfl
              first
                | (refine pure_ (i := 1) (N := some 63) (v := ?_) (a' := ?_) #[true, true, false, false, false, false] rfl rfl (by kernel_rfl) (fun _ _ _ h => h) (Or.inl ⟨by rfl, ?_⟩) ?_ ?_
                   rotate_left
                   · intro w'
                     go_simp
                     with_reducible rfl)
                | (refine take_ (i := 1) (N := some 63) (v := ?_) (a' := ?_) #[true, true, false, false, false, false] rfl rfl (by kernel_rfl) (fun _ _ _ h => h) (Or.inl ⟨by rfl, ?_⟩) hHeld ?_ ?_
                   rotate_left
                   · rintro w' ⟨_, cv0_⟩
                     rw [hcv37H.out] at cv0_; unfold X.cvS at cv0_
                     go_simp
                     with_reducible rfl)
              rotate_left
              · simp only [Act.put, List.setIfInBounds_toArray, List.set_cons_zero, List.set_cons_succ, i64_w, i32_w]
                rfl
              refine one_ (i := 2) (N := some 64) #[true, true, true, false, false, false] rfl rfl (by kernel_rfl) (by decide) (fun K hK => ?_)
              refine Kd.R_make_step (Kd.int .u8) _ 5 (by rfl) (N := 64) rfl 22 _ _ rfl 128 rfl rfl Try.underlying22 (.int .u8 0) 1 info5 rfl (by decide) (by omega) 0 (ok := fun _ => True) (okp := fun _ => True) rfl (fun _ hk => hk) trivial (by omega) (by omega) (Below.refl _ _) (Nat.le_refl _) ?_
              intro v349 w39 ho40 hb hg_ hnew_
              clear hg_ hnew_
              (first | rw [← Ny348.out] at ho40 | (simp only [Int.reduceToNat] at ho40; rw [← Ny348.out] at ho40))
              have n0_ := Aside0.mk (Kd.R_elder' (by (with_reducible repeat (first | apply Kd.R_alloc | apply Kd.R_drewN | apply Kd.R_drew)); exact HO_7.out) (Kd.R_base ho40) hb)
              have n1_ := Aside0.mk (Kd.R_lower (Kd.R_new' ho40 (Kd.R_lt (by (with_reducible repeat (first | apply Kd.R_alloc | apply Kd.R_drewN | apply Kd.R_drew)); exact HO_7.out))) (below_size (by repeat (first | (with_reducible first | exact HB.out | apply below_alloc | apply pw_below_drewN | apply below_drew1 | refine below_set ?_ GE340.out) | exact HB.out))))
              have n2_ := Aside0.mk (blk_below (g := gb340) (o := .cells #[.int .i64 a0_0, .int .i64 a0_1, .int .i64 a0_2, .bool a0_3, .int .i64 a0_4, .slice A0_5 l0_5.length c0_5] 24 (0, 0)) (by (with_reducible repeat (first | refine blk_drewN ?_ _ | refine blk_drew ?_ | refine blk_alloc ?_ _)); exact BK340.out) hb)
              have n3_ := Aside0.mk (below_step (by repeat (first | (with_reducible first | exact HB.out | apply below_alloc | apply pw_below_drewN | apply below_drew1 | refine below_set ?_ GE340.out) | exact HB.out)) hb)
              clear HO_7
              clear BK340
              clear HB
              have HO_7 := n0_
              have HO350 := n1_
              have BK340 := n2_
              have HB := n3_
              clear n0_ n1_ n2_ n3_
              clear hb ho40
              refine hK.out _ _ ⟨trivial, (by rw [hcv37H.out]; exact own_string (P := Try.prog) Try.underlying22 Try.underlying5 Try.underlying9 (Kd.own_of_R HO_7.out))⟩ (fun hHeld => ?_)
              clear hK K
              refine norm_ (a' := ?_) ?_ ?_
              rotate_left
              · show Act.put _ (some 64) _ = _
                simp only [Act.put, List.setIfInBounds_toArray, List.set_cons_zero, List.set_cons_succ, i64_w, i32_w]
                rfl
              refine one_ (i := 3) (N := some 65) #[true, true, true, true, false, false] rfl rfl (by kernel_rfl) (by decide) (fun K hK => ?_)
              have hcv41 := own_string (P := Try.prog) Try.underlying22 Try.underlying5 Try.underlying9 (Kd.own_of_R HO350.out)
              refine value_ (w1 := ?_) (v := ?_) (by rfl) rfl ?_ ?_
              rotate_left 2
              · go_simp
                constructor
                · rfl
                · rfl
              clear hcv41
              refine hK.out _ _ ⟨trivial, (by rw [hcv37H.out]; exact own_string (P := Try.prog) Try.underlying22 Try.underlying5 Try.underlying9 (Kd.own_of_R HO_7.out))⟩ (fun hHeld => ?_)
              clear hK K
              refine norm_ (a' := ?_) ?_ ?_
              rotate_left
              · show Act.put _ (some 65) _ = _
                simp only [Act.put, List.setIfInBounds_toArray, List.set_cons_zero, List.set_cons_succ, i64_w, i32_w]
                rfl
              first
                | (refine pure_ (i := 4) (N := some 66) (v := ?_) (a' := ?_) #[true, true, true, true, true, false] rfl rfl (by kernel_rfl) (fun _ _ _ h => h) (Or.inl ⟨by rfl, ?_⟩) ?_ ?_
                   rotate_left
                   · intro w'
                     go_simp
                     with_reducible rfl)
                | (refine take_ (i := 4) (N := some 66) (v := ?_) (a' := ?_) #[true, true, true, true, true, false] rfl rfl (by kernel_rfl) (fun _ _ _ h => h) (Or.inl ⟨by rfl, ?_⟩) hHeld ?_ ?_
                   rotate_left
                   · rintro w' ⟨_, cv0_⟩
                     rw [hcv37H.out] at cv0_; unfold X.cvS at cv0_
                     go_simp
                     with_reducible rfl)
              rotate_left
              · simp only [Act.put, List.setIfInBounds_toArray, List.set_cons_zero, List.set_cons_succ, i64_w, i32_w]
                rfl
              first
                | (refine pure_ (i := 5) (N := some 13) (v := ?_) (a' := ?_) #[true, true, true, true, true, true] rfl rfl (by kernel_rfl) (fun _ _ _ h => h) (Or.inl ⟨by rfl, ?_⟩) ?_ ?_
                   rotate_left
                   · intro w'
                     go_simp
                     with_reducible rfl)
                | (refine take_ (i := 5) (N := some 13) (v := ?_) (a' := ?_) #[true, true, true, true, true, true] rfl rfl (by kernel_rfl) (fun _ _ _ h => h) (Or.inl ⟨by rfl, ?_⟩) hHeld ?_ ?_
                   rotate_left
                   · rintro w' ⟨_, cv0_⟩
                     rw [hcv37H.out] at cv0_; unfold X.cvS at cv0_
                     go_simp
                     with_reducible rfl)
              rotate_left
              · simp only [Act.put, List.setIfInBounds_toArray, List.set_cons_zero, List.set_cons_succ, i64_w, i32_w]
                rfl
              refine done_ (by kernel_rfl) ?_
              obtain ⟨Ao43, co43, eo43⟩ := Kd.R_slice HO_7.out
              subst eo43
              try go_wp2_with (first | ((with_reducible refine gate_callee (f := 15) rfl ?_); refine goesL_ (some 69) rfl rfl Try.func15 (by kernel_rfl) rfl #[.slice Ao43 x7_2.length co43, .int .i64 7] rfl (by (try simp only [List.map_toArray, List.map_cons, List.map_nil]); first | done | rfl | (simp only [List.length_drop, List.length_take]; rfl)) ?_; (with_reducible refine (inode_Decode.calls k2 _ _ x7_2 7 t351 t352 t353 t354 t355 t356 t359 _ ?side1 ?side2 A31.out).mono ?_); (case side1 => repeat (first | exact (Kd.R_reads' HO_7.out).2.2 | (with_reducible refine Kd.C_alloc ?_ _) | (with_reducible refine Kd.C_drewN ?_ _) | (with_reducible refine Kd.C_drew ?_))); (case side2 => exact (Kd.R_reads' HO_7.out).2.1); rintro e w44 ⟨v357, rfl, ho0, hb⟩; refine ⟨_, rfl, ?_⟩; have n0_ := Aside0.mk (Kd.R_elder' (by (with_reducible repeat (first | apply Kd.R_alloc | apply Kd.R_drewN | apply Kd.R_drew)); exact HO_7.out) (Kd.R_base ho0) hb); have n1_ := Aside0.mk (Kd.R_elder' (by (with_reducible repeat (first | apply Kd.R_alloc | apply Kd.R_drewN | apply Kd.R_drew)); exact HO350.out) (Kd.R_base ho0) hb); have n2_ := Aside0.mk (Kd.R_lower (Kd.R_new' (Kd.R_new' ho0 (Kd.R_lt (by (with_reducible repeat (first | apply Kd.R_alloc | apply Kd.R_drewN | apply Kd.R_drew)); exact HO_7.out))) (Kd.R_lt (by (with_reducible repeat (first | apply Kd.R_alloc | apply Kd.R_drewN | apply Kd.R_drew)); exact HO350.out))) (below_size (by repeat (first | (with_reducible first | exact HB.out | apply below_alloc | apply pw_below_drewN | apply below_drew1 | refine below_set ?_ GE340.out) | exact HB.out)))); have n3_ := Aside0.mk (blk_below (g := gb340) (o := .cells #[.int .i64 a0_0, .int .i64 a0_1, .int .i64 a0_2, .bool a0_3, .int .i64 a0_4, .slice A0_5 l0_5.length c0_5] 24 (0, 0)) (by (with_reducible repeat (first | refine blk_drewN ?_ _ | refine blk_drew ?_ | refine blk_alloc ?_ _)); exact BK340.out) hb); have n4_ := Aside0.mk (below_step (by repeat (first | (with_reducible first | exact HB.out | apply below_alloc | apply pw_below_drewN | apply below_drew1 | refine below_set ?_ GE340.out) | exact HB.out)) hb); clear HO_7; clear HO350; clear BK340; clear HB; have HO_7 := n0_; have HO350 := n1_; have HO358 := n2_; have BK340 := n3_; have HB := n4_; clear n0_ n1_ n2_ n3_ n4_; (try clear hb); (try clear hb2); (try clear hk); (try clear hi); (try clear ho0)) | ((with_reducible refine gate_dst (N := 14) rfl ?_); (try (refine gate_guard (by rfl) ?_; dsimp only)); refine box_event ?hg (N := 14) ?hd (cs := #[.int .i64 0, .int .i64 0, .int .i64 0, .bool false, .int .i64 0, .slice none 0 0]) (t := 24) ?hr ?_; (case hd => rfl); (case hg => rfl); (case hr => first | (go_simp; done) | (go_simp; rfl)); intro gb360 hg w45 hbox hb; have n0_ := Aside0.mk (Kd.R_below (by (with_reducible repeat (first | apply Kd.R_alloc | apply Kd.R_drewN | apply Kd.R_drew)); exact HO_7.out) hb); have n1_ := Aside0.mk (Kd.R_below (by (with_reducible repeat (first | apply Kd.R_alloc | apply Kd.R_drewN | apply Kd.R_drew)); exact HO350.out) hb); have n2_ := Aside0.mk (Kd.R_below (by (with_reducible repeat (first | apply Kd.R_alloc | apply Kd.R_drewN | apply Kd.R_drew)); exact HO358.out) hb); have n3_ := Aside0.mk (blk_below (g := gb340) (o := .cells #[.int .i64 a0_0, .int .i64 a0_1, .int .i64 a0_2, .bool a0_3, .int .i64 a0_4, .slice A0_5 l0_5.length c0_5] 24 (0, 0)) (by (with_reducible repeat (first | refine blk_drewN ?_ _ | refine blk_drew ?_ | refine blk_alloc ?_ _)); exact BK340.out) hb); have n4_ := Aside0.mk (below_step (by repeat (first | (with_reducible first | exact HB.out | apply below_alloc | apply pw_below_drewN | apply below_drew1 | refine below_set ?_ GE340.out) | exact HB.out)) hb); have n5_ := Aside0.mk (hbox); have n6_ := Aside0.mk ((by rw [hg]; exact (below_size (by repeat (first | (with_reducible first | exact HB.out | apply below_alloc | apply pw_below_drewN | apply below_drew1 | refine below_set ?_ GE340.out) | exact HB.out))) : w.heap.size ≤ gb360)); have n7_ := Aside0.mk ((by rw [hg]; exact (below_size (by repeat (first | (with_reducible first | exact HB.out | apply below_alloc | apply pw_below_drewN | apply below_drew1 | refine below_set ?_ GE340.out) | exact HB.out))) : w.heap.size ≤ gb360)); have n8_ := Aside0.mk ((by rw [hg]; exact Nat.ne_of_lt (blk_lt (g := gb340) (o := .cells #[.int .i64 a0_0, .int .i64 a0_1, .int .i64 a0_2, .bool a0_3, .int .i64 a0_4, .slice A0_5 l0_5.length c0_5] 24 (0, 0)) (by (with_reducible repeat (first | refine blk_drewN ?_ _ | refine blk_drew ?_ | refine blk_alloc ?_ _)); exact BK340.out)) : gb340 ≠ gb360)); have n9_ := Aside0.mk ((by rw [hg]; exact Nat.ne_of_gt (blk_lt (g := gb340) (o := .cells #[.int .i64 a0_0, .int .i64 a0_1, .int .i64 a0_2, .bool a0_3, .int .i64 a0_4, .slice A0_5 l0_5.length c0_5] 24 (0, 0)) (by (with_reducible repeat (first | refine blk_drewN ?_ _ | refine blk_drew ?_ | refine blk_alloc ?_ _)); exact BK340.out)) : gb360 ≠ gb340)); clear HO_7; clear HO350; clear HO358; clear BK340; clear HB; have HO_7 := n0_; have HO350 := n1_; have HO358 := n2_; have BK340 := n3_; have HB := n4_; have BK360 := n5_; have GW360 := n6_; have GE360 := n7_; have NB340_360 := n8_; have NB360_340 := n9_; clear n0_ n1_ n2_ n3_ n4_ n5_ n6_ n7_ n8_ n9_; clear hb hbox hg; have hnb46 := NB360_340.out; have hnc46 := NB340_360.out; have hcz47_0 : w45.cell? ⟨gb360, 0, none⟩ = some (.int .i64 0) := (blk_cell BK360.out 0).trans rfl; have hcz47_1 : w45.cell? ⟨gb360, 1, none⟩ = some (.int .i64 0) := (blk_cell BK360.out 1).trans rfl; have hcz47_2 : w45.cell? ⟨gb360, 2, none⟩ = some (.int .i64 0) := (blk_cell BK360.out 2).trans rfl; have hcz47_3 : w45.cell? ⟨gb360, 3, none⟩ = some (.bool false) := (blk_cell BK360.out 3).trans rfl; have hcz47_4 : w45.cell? ⟨gb360, 4, none⟩ = some (.int .i64 0) := (blk_cell BK360.out 4).trans rfl; have hcz47_5 : w45.cell? ⟨gb360, 5, none⟩ = some (.slice none 0 0) := (blk_cell BK360.out 5).trans rfl; have hfz47_0 := blk_frozen BK360.out 0; have hfz47_1 := blk_frozen BK360.out 1; have hfz47_2 := blk_frozen BK360.out 2; have hfz47_3 := blk_frozen BK360.out 3; have hfz47_4 := blk_frozen BK360.out 4; have hfz47_5 := blk_frozen BK360.out 5; obtain ⟨Ao48, co48, eo48⟩ := Kd.R_slice HO358.out; subst eo48) | (go_at_call 17; (with_reducible refine (undercroftref09_None.calls t351 t352 t353 t354 t355 _ _ t356 t361 _ ?side1 ?side2 A35.out).mono ?_); (case side1 => refine (Kd.R_reads' (e := 5) (base := w.heap.size) (ok := fun k_ => ((True ∧ some k_ ≠ (.slice Ao43 x7_2.length co43 : Value).ownBlock) ∧ some k_ ≠ (v349 : Value).ownBlock)) (n := t356.length) (c := co48) ?_).2.2; exact (by (with_reducible repeat (first | apply Kd.R_alloc | apply Kd.R_drewN | apply Kd.R_drew)); exact (Kd.R_mono (Kd.R_far (p := ⟨gb360, 5, none⟩) (Kd.R_far (p := ⟨gb360, 4, none⟩) (Kd.R_far (p := ⟨gb360, 3, none⟩) (Kd.R_far (p := ⟨gb360, 2, none⟩) (Kd.R_far (p := ⟨gb360, 1, none⟩) (Kd.R_far (p := ⟨gb360, 0, none⟩) (Kd.R_types HO358.out BK360.out (by decide)) (fun _ hk => hk.2) (.int .i64 t351)) (fun _ hk => hk.2) (.int .i64 t352)) (fun _ hk => hk.2) (.int .i64 t353)) (fun _ hk => hk.2) (.bool t354)) (fun _ hk => hk.2) (.int .i64 t355)) (fun _ hk => hk.2) (.slice Ao48 t356.length co48)) (fun _ h_ => h_.1)))); (case side2 => exact (Kd.R_reads' HO358.out).2.1); rintro e w49 ⟨rfl, hb⟩; have n0_ := Aside0.mk (Kd.R_below (by (with_reducible repeat (first | apply Kd.R_alloc | apply Kd.R_drewN | apply Kd.R_drew)); exact (Kd.R_mono (Kd.R_far (p := ⟨gb360, 5, none⟩) (Kd.R_far (p := ⟨gb360, 4, none⟩) (Kd.R_far (p := ⟨gb360, 3, none⟩) (Kd.R_far (p := ⟨gb360, 2, none⟩) (Kd.R_far (p := ⟨gb360, 1, none⟩) (Kd.R_far (p := ⟨gb360, 0, none⟩) (Kd.R_types HO_7.out BK360.out (by decide)) (fun _ hk => hk.2) (.int .i64 t351)) (fun _ hk => hk.2) (.int .i64 t352)) (fun _ hk => hk.2) (.int .i64 t353)) (fun _ hk => hk.2) (.bool t354)) (fun _ hk => hk.2) (.int .i64 t355)) (fun _ hk => hk.2) (.slice Ao48 t356.length co48)) (fun _ h_ => h_.1))) hb); have n1_ := Aside0.mk (Kd.R_below (by (with_reducible repeat (first | apply Kd.R_alloc | apply Kd.R_drewN | apply Kd.R_drew)); exact (Kd.R_mono (Kd.R_far (p := ⟨gb360, 5, none⟩) (Kd.R_far (p := ⟨gb360, 4, none⟩) (Kd.R_far (p := ⟨gb360, 3, none⟩) (Kd.R_far (p := ⟨gb360, 2, none⟩) (Kd.R_far (p := ⟨gb360, 1, none⟩) (Kd.R_far (p := ⟨gb360, 0, none⟩) (Kd.R_types HO350.out BK360.out (by decide)) (fun _ hk => hk.2) (.int .i64 t351)) (fun _ hk => hk.2) (.int .i64 t352)) (fun _ hk => hk.2) (.int .i64 t353)) (fun _ hk => hk.2) (.bool t354)) (fun _ hk => hk.2) (.int .i64 t355)) (fun _ hk => hk.2) (.slice Ao48 t356.length co48)) (fun _ h_ => h_.1))) hb); have n2_ := Aside0.mk (Kd.R_below (by (with_reducible repeat (first | apply Kd.R_alloc | apply Kd.R_drewN | apply Kd.R_drew)); exact (Kd.R_mono (Kd.R_far (p := ⟨gb360, 5, none⟩) (Kd.R_far (p := ⟨gb360, 4, none⟩) (Kd.R_far (p := ⟨gb360, 3, none⟩) (Kd.R_far (p := ⟨gb360, 2, none⟩) (Kd.R_far (p := ⟨gb360, 1, none⟩) (Kd.R_far (p := ⟨gb360, 0, none⟩) (Kd.R_types HO358.out BK360.out (by decide)) (fun _ hk => hk.2) (.int .i64 t351)) (fun _ hk => hk.2) (.int .i64 t352)) (fun _ hk => hk.2) (.int .i64 t353)) (fun _ hk => hk.2) (.bool t354)) (fun _ hk => hk.2) (.int .i64 t355)) (fun _ hk => hk.2) (.slice Ao48 t356.length co48)) (fun _ h_ => h_.1))) hb); have n3_ := Aside0.mk (blk_below (g := gb340) (o := .cells #[.int .i64 a0_0, .int .i64 a0_1, .int .i64 a0_2, .bool a0_3, .int .i64 a0_4, .slice A0_5 l0_5.length c0_5] 24 (0, 0)) (by (with_reducible repeat (first | refine blk_drewN ?_ _ | refine blk_drew ?_ | refine blk_alloc ?_ _)); refine blk_far ?_ NB340_360.out _; (with_reducible repeat (first | refine blk_drewN ?_ _ | refine blk_drew ?_ | refine blk_alloc ?_ _)); refine blk_far ?_ NB340_360.out _; (with_reducible repeat (first | refine blk_drewN ?_ _ | refine blk_drew ?_ | refine blk_alloc ?_ _)); refine blk_far ?_ NB340_360.out _; (with_reducible repeat (first | refine blk_drewN ?_ _ | refine blk_drew ?_ | refine blk_alloc ?_ _)); refine blk_far ?_ NB340_360.out _; (with_reducible repeat (first | refine blk_drewN ?_ _ | refine blk_drew ?_ | refine blk_alloc ?_ _)); refine blk_far ?_ NB340_360.out _; (with_reducible repeat (first | refine blk_drewN ?_ _ | refine blk_drew ?_ | refine blk_alloc ?_ _)); refine blk_far ?_ NB340_360.out _; (with_reducible repeat (first | refine blk_drewN ?_ _ | refine blk_drew ?_ | refine blk_alloc ?_ _)); exact BK340.out) hb); have n4_ := Aside0.mk (blk_below (g := gb360) (o := .cells #[.int .i64 t351, .int .i64 t352, .int .i64 t353, .bool t354, .int .i64 t355, .slice Ao48 t356.length co48] 24 (0, 0)) (by (with_reducible repeat (first | refine blk_drewN ?_ _ | refine blk_drew ?_ | refine blk_alloc ?_ _)); refine blk_put (cs := #[.int .i64 t351, .int .i64 t352, .int .i64 t353, .bool t354, .int .i64 t355, .slice none 0 0]) ?_ 5 _ rfl; (with_reducible repeat (first | refine blk_drewN ?_ _ | refine blk_drew ?_ | refine blk_alloc ?_ _)); refine blk_put (cs := #[.int .i64 t351, .int .i64 t352, .int .i64 t353, .bool t354, .int .i64 0, .slice none 0 0]) ?_ 4 _ rfl; (with_reducible repeat (first | refine blk_drewN ?_ _ | refine blk_drew ?_ | refine blk_alloc ?_ _)); refine blk_put (cs := #[.int .i64 t351, .int .i64 t352, .int .i64 t353, .bool false, .int .i64 0, .slice none 0 0]) ?_ 3 _ rfl; (with_reducible repeat (first | refine blk_drewN ?_ _ | refine blk_drew ?_ | refine blk_alloc ?_ _)); refine blk_put (cs := #[.int .i64 t351, .int .i64 t352, .int .i64 0, .bool false, .int .i64 0, .slice none 0 0]) ?_ 2 _ rfl; (with_reducible repeat (first | refine blk_drewN ?_ _ | refine blk_drew ?_ | refine blk_alloc ?_ _)); refine blk_put (cs := #[.int .i64 t351, .int .i64 0, .int .i64 0, .bool false, .int .i64 0, .slice none 0 0]) ?_ 1 _ rfl; (with_reducible repeat (first | refine blk_drewN ?_ _ | refine blk_drew ?_ | refine blk_alloc ?_ _)); refine blk_put (cs := #[.int .i64 0, .int .i64 0, .int .i64 0, .bool false, .int .i64 0, .slice none 0 0]) ?_ 0 _ rfl; (with_reducible repeat (first | refine blk_drewN ?_ _ | refine blk_drew ?_ | refine blk_alloc ?_ _)); exact BK360.out) hb); have n5_ := Aside0.mk (below_step (by repeat (first | (with_reducible first | exact HB.out | apply below_alloc | apply pw_below_drewN | apply below_drew1 | refine below_set ?_ GE340.out | refine below_set ?_ GE360.out) | exact HB.out)) hb); clear HO_7; clear HO350; clear HO358; clear BK340; clear BK360; clear HB; have HO_7 := n0_; have HO350 := n1_; have HO358 := n2_; have BK340 := n3_; have BK360 := n4_; have HB := n5_; clear n0_ n1_ n2_ n3_ n4_ n5_; (try clear hb); (try clear hb2); (try clear hk); (try clear hi)))
              go_ret
              exact ⟨by first | rfl | (simp [errW_none, errW_some] <;> rfl) | (simp [*, errW_none, errW_some] <;> rfl), by repeat (first | (with_reducible first | exact HB.out | apply below_alloc | apply pw_below_drewN | apply below_drew1 | refine below_set ?_ GE340.out | refine below_set ?_ GE360.out) | exact HB.out)⟩
            rw [if_neg c32] at H
            have c32b0 : ((strOfNums x7_2).toList == (strOfNums y348).toList) = false := beq_eq_false_iff_ne.mpr c32
            have c32b1 : ((strOfNums x7_2).toList != (strOfNums y348).toList) = true := bne_iff_ne.mpr c32
            by_cases c76 : a0_0 = 0
            rotate_left
            · rw [if_neg c76] at H
              have c76b0 : (a0_0 == 0) = false := beq_eq_false_iff_ne.mpr c76
              have c76b1 : (a0_0 != 0) = true := bne_iff_ne.mpr c76
              obtain rfl := Option.some.inj H
              try go_wp2
              have n0_ := Aside0.mk (Kd.R_drew HO_7.out)
              have n1_ := Aside0.mk (blk_drew BK340.out)
              have n2_ := Aside0.mk (below_drew1 HB.out)
              clear HO_7
              clear BK340
              clear HB
              have HO_7 := n0_
              have BK340 := n1_
              have HB := n2_
              clear n0_ n1_ n2_
              have hcv124 := own_string (P := Try.prog) Try.underlying22 Try.underlying5 Try.underlying9 (Kd.own_of_R HO_7.out)
              have hcd125 := fun (nd_ : Nat) => own_string (P := Try.prog) Try.underlying22 Try.underlying5 Try.underlying9 (Kd.own_of_R (Kd.R_drewN HO_7.out nd_))
              obtain ⟨hcv124T, hcv124H⟩ : ∃ T_ : World → Prop, T_ = X.cvS hcv124 := ⟨_, rfl⟩
              replace hcv124H := Aside0.mk hcv124H
              refine start_ (n := 6) (S := fun w' => True ∧ hcv124T w') (ds := []) #[false, false, false, false, false, false] (by kernel_rfl) rfl rfl ⟨trivial, (by rw [hcv124H.out]; exact own_string (P := Try.prog) Try.underlying22 Try.underlying5 Try.underlying9 (Kd.own_of_R HO_7.out))⟩ (fun hHeld => ?_)
              generalize wr.drew = w123 at HO_7 BK340 HB hHeld ⊢
              first
                | (refine pure_ (i := 0) (N := some 62) (v := ?_) (a' := ?_) #[true, false, false, false, false, false] rfl rfl (by kernel_rfl) (fun _ _ _ h => h) (Or.inl ⟨by rfl, ?_⟩) ?_ ?_
                   rotate_left
                   · intro w'
                     go_simp
                     with_reducible rfl)
                | (refine take_ (i := 0) (N := some 62) (v := ?_) (a' := ?_) #[true, false, false, false, false, false] rfl rfl (by kernel_rfl) (fun _ _ _ h => h) (Or.inl ⟨by rfl, ?_⟩) hHeld ?_ ?_
                   rotate_left
                   · rintro w' ⟨_, cv0_⟩
                     rw [hcv124H.out] at cv0_; unfold X.cvS at cv0_
                     go_simp
                     with_reducible rfl)
              rotate_left
              · simp only [Act.put, List.setIfInBounds_toArray, List.set_cons_zero, List.set_cons_succ, i64_w, i32_w]
                rfl
              first
                | (refine pure_ (i := 1) (N := some 63) (v := ?_) (a' := ?_) #[true, true, false, false, false, false] rfl rfl (by kernel_rfl) (fun _ _ _ h => h) (Or.inl ⟨by rfl, ?_⟩) ?_ ?_
                   rotate_left
                   · intro w'
                     go_simp
                     with_reducible rfl)
                | (refine take_ (i := 1) (N := some 63) (v := ?_) (a' := ?_) #[true, true, false, false, false, false] rfl rfl (by kernel_rfl) (fun _ _ _ h => h) (Or.inl ⟨by rfl, ?_⟩) hHeld ?_ ?_
                   rotate_left
                   · rintro w' ⟨_, cv0_⟩
                     rw [hcv124H.out] at cv0_; unfold X.cvS at cv0_
                     go_simp
                     with_reducible rfl)
              rotate_left
              · simp only [Act.put, List.setIfInBounds_toArray, List.set_cons_zero, List.set_cons_succ, i64_w, i32_w]
                rfl
              refine one_ (i := 2) (N := some 64) #[true, true, true, false, false, false] rfl rfl (by kernel_rfl) (by decide) (fun K hK => ?_)
              refine Kd.R_make_step (Kd.int .u8) _ 5 (by rfl) (N := 64) rfl 22 _ _ rfl 128 rfl rfl Try.underlying22 (.int .u8 0) 1 info5 rfl (by decide) (by omega) 0 (ok := fun _ => True) (okp := fun _ => True) rfl (fun _ hk => hk) trivial (by omega) (by omega) (Below.refl _ _) (Nat.le_refl _) ?_
              intro v349 w126 ho127 hb hg_ hnew_
              clear hg_ hnew_
              (first | rw [← Ny348.out] at ho127 | (simp only [Int.reduceToNat] at ho127; rw [← Ny348.out] at ho127))
              have n0_ := Aside0.mk (Kd.R_elder' (by (with_reducible repeat (first | apply Kd.R_alloc | apply Kd.R_drewN | apply Kd.R_drew)); exact HO_7.out) (Kd.R_base ho127) hb)
              have n1_ := Aside0.mk (Kd.R_lower (Kd.R_new' ho127 (Kd.R_lt (by (with_reducible repeat (first | apply Kd.R_alloc | apply Kd.R_drewN | apply Kd.R_drew)); exact HO_7.out))) (below_size (by repeat (first | (with_reducible first | exact HB.out | apply below_alloc | apply pw_below_drewN | apply below_drew1 | refine below_set ?_ GE340.out) | exact HB.out))))
              have n2_ := Aside0.mk (blk_below (g := gb340) (o := .cells #[.int .i64 a0_0, .int .i64 a0_1, .int .i64 a0_2, .bool a0_3, .int .i64 a0_4, .slice A0_5 l0_5.length c0_5] 24 (0, 0)) (by (with_reducible repeat (first | refine blk_drewN ?_ _ | refine blk_drew ?_ | refine blk_alloc ?_ _)); exact BK340.out) hb)
              have n3_ := Aside0.mk (below_step (by repeat (first | (with_reducible first | exact HB.out | apply below_alloc | apply pw_below_drewN | apply below_drew1 | refine below_set ?_ GE340.out) | exact HB.out)) hb)
              clear HO_7
              clear BK340
              clear HB
              have HO_7 := n0_
              have HO350 := n1_
              have BK340 := n2_
              have HB := n3_
              clear n0_ n1_ n2_ n3_
              clear hb ho127
              refine hK.out _ _ ⟨trivial, (by rw [hcv124H.out]; exact own_string (P := Try.prog) Try.underlying22 Try.underlying5 Try.underlying9 (Kd.own_of_R HO_7.out))⟩ (fun hHeld => ?_)
              clear hK K
              refine norm_ (a' := ?_) ?_ ?_
              rotate_left
              · show Act.put _ (some 64) _ = _
                simp only [Act.put, List.setIfInBounds_toArray, List.set_cons_zero, List.set_cons_succ, i64_w, i32_w]
                rfl
              refine one_ (i := 3) (N := some 65) #[true, true, true, true, false, false] rfl rfl (by kernel_rfl) (by decide) (fun K hK => ?_)
              have hcv128 := own_string (P := Try.prog) Try.underlying22 Try.underlying5 Try.underlying9 (Kd.own_of_R HO350.out)
              refine value_ (w1 := ?_) (v := ?_) (by rfl) rfl ?_ ?_
              rotate_left 2
              · go_simp
                constructor
                · rfl
                · rfl
              clear hcv128
              refine hK.out _ _ ⟨trivial, (by rw [hcv124H.out]; exact own_string (P := Try.prog) Try.underlying22 Try.underlying5 Try.underlying9 (Kd.own_of_R HO_7.out))⟩ (fun hHeld => ?_)
              clear hK K
              refine norm_ (a' := ?_) ?_ ?_
              rotate_left
              · show Act.put _ (some 65) _ = _
                simp only [Act.put, List.setIfInBounds_toArray, List.set_cons_zero, List.set_cons_succ, i64_w, i32_w]
                rfl
              first
                | (refine pure_ (i := 4) (N := some 66) (v := ?_) (a' := ?_) #[true, true, true, true, true, false] rfl rfl (by kernel_rfl) (fun _ _ _ h => h) (Or.inl ⟨by rfl, ?_⟩) ?_ ?_
                   rotate_left
                   · intro w'
                     go_simp
                     with_reducible rfl)
                | (refine take_ (i := 4) (N := some 66) (v := ?_) (a' := ?_) #[true, true, true, true, true, false] rfl rfl (by kernel_rfl) (fun _ _ _ h => h) (Or.inl ⟨by rfl, ?_⟩) hHeld ?_ ?_
                   rotate_left
                   · rintro w' ⟨_, cv0_⟩
                     rw [hcv124H.out] at cv0_; unfold X.cvS at cv0_
                     go_simp
                     with_reducible rfl)
              rotate_left
              · simp only [Act.put, List.setIfInBounds_toArray, List.set_cons_zero, List.set_cons_succ, i64_w, i32_w]
                rfl
              first
                | (refine pure_ (i := 5) (N := some 13) (v := ?_) (a' := ?_) #[true, true, true, true, true, true] rfl rfl (by kernel_rfl) (fun _ _ _ h => h) (Or.inl ⟨by rfl, ?_⟩) ?_ ?_
                   rotate_left
                   · intro w'
                     go_simp
                     with_reducible rfl)
                | (refine take_ (i := 5) (N := some 13) (v := ?_) (a' := ?_) #[true, true, true, true, true, true] rfl rfl (by kernel_rfl) (fun _ _ _ h => h) (Or.inl ⟨by rfl, ?_⟩) hHeld ?_ ?_
                   rotate_left
                   · rintro w' ⟨_, cv0_⟩
                     rw [hcv124H.out] at cv0_; unfold X.cvS at cv0_
                     go_simp
                     with_reducible rfl)
              rotate_left
              · simp only [Act.put, List.setIfInBounds_toArray, List.set_cons_zero, List.set_cons_succ, i64_w, i32_w]
                rfl
              refine done_ (by kernel_rfl) ?_
              obtain ⟨Ao130, co130, eo130⟩ := Kd.R_slice HO_7.out
              subst eo130
              try go_wp2_with (first | ((with_reducible refine gate_callee (f := 15) rfl ?_); refine goesL_ (some 69) rfl rfl Try.func15 (by kernel_rfl) rfl #[.slice Ao130 x7_2.length co130, .int .i64 7] rfl (by (try simp only [List.map_toArray, List.map_cons, List.map_nil]); first | done | rfl | (simp only [List.length_drop, List.length_take]; rfl)) ?_; (with_reducible refine (inode_Decode.calls k2 _ _ x7_2 7 t351 t352 t353 t354 t355 t356 t359 _ ?side1 ?side2 A31.out).mono ?_); (case side1 => repeat (first | exact (Kd.R_reads' HO_7.out).2.2 | (with_reducible refine Kd.C_alloc ?_ _) | (with_reducible refine Kd.C_drewN ?_ _) | (with_reducible refine Kd.C_drew ?_))); (case side2 => exact (Kd.R_reads' HO_7.out).2.1); rintro e w131 ⟨v357, rfl, ho0, hb⟩; refine ⟨_, rfl, ?_⟩; have n0_ := Aside0.mk (Kd.R_elder' (by (with_reducible repeat (first | apply Kd.R_alloc | apply Kd.R_drewN | apply Kd.R_drew)); exact HO_7.out) (Kd.R_base ho0) hb); have n1_ := Aside0.mk (Kd.R_elder' (by (with_reducible repeat (first | apply Kd.R_alloc | apply Kd.R_drewN | apply Kd.R_drew)); exact HO350.out) (Kd.R_base ho0) hb); have n2_ := Aside0.mk (Kd.R_lower (Kd.R_new' (Kd.R_new' ho0 (Kd.R_lt (by (with_reducible repeat (first | apply Kd.R_alloc | apply Kd.R_drewN | apply Kd.R_drew)); exact HO_7.out))) (Kd.R_lt (by (with_reducible repeat (first | apply Kd.R_alloc | apply Kd.R_drewN | apply Kd.R_drew)); exact HO350.out))) (below_size (by repeat (first | (with_reducible first | exact HB.out | apply below_alloc | apply pw_below_drewN | apply below_drew1 | refine below_set ?_ GE340.out) | exact HB.out)))); have n3_ := Aside0.mk (blk_below (g := gb340) (o := .cells #[.int .i64 a0_0, .int .i64 a0_1, .int .i64 a0_2, .bool a0_3, .int .i64 a0_4, .slice A0_5 l0_5.length c0_5] 24 (0, 0)) (by (with_reducible repeat (first | refine blk_drewN ?_ _ | refine blk_drew ?_ | refine blk_alloc ?_ _)); exact BK340.out) hb); have n4_ := Aside0.mk (below_step (by repeat (first | (with_reducible first | exact HB.out | apply below_alloc | apply pw_below_drewN | apply below_drew1 | refine below_set ?_ GE340.out) | exact HB.out)) hb); clear HO_7; clear HO350; clear BK340; clear HB; have HO_7 := n0_; have HO350 := n1_; have HO358 := n2_; have BK340 := n3_; have HB := n4_; clear n0_ n1_ n2_ n3_ n4_; (try clear hb); (try clear hb2); (try clear hk); (try clear hi); (try clear ho0)) | ((with_reducible refine gate_dst (N := 14) rfl ?_); (try (refine gate_guard (by rfl) ?_; dsimp only)); refine box_event ?hg (N := 14) ?hd (cs := #[.int .i64 0, .int .i64 0, .int .i64 0, .bool false, .int .i64 0, .slice none 0 0]) (t := 24) ?hr ?_; (case hd => rfl); (case hg => rfl); (case hr => first | (go_simp; done) | (go_simp; rfl)); intro gb360 hg w132 hbox hb; have n0_ := Aside0.mk (Kd.R_below (by (with_reducible repeat (first | apply Kd.R_alloc | apply Kd.R_drewN | apply Kd.R_drew)); exact HO_7.out) hb); have n1_ := Aside0.mk (Kd.R_below (by (with_reducible repeat (first | apply Kd.R_alloc | apply Kd.R_drewN | apply Kd.R_drew)); exact HO350.out) hb); have n2_ := Aside0.mk (Kd.R_below (by (with_reducible repeat (first | apply Kd.R_alloc | apply Kd.R_drewN | apply Kd.R_drew)); exact HO358.out) hb); have n3_ := Aside0.mk (blk_below (g := gb340) (o := .cells #[.int .i64 a0_0, .int .i64 a0_1, .int .i64 a0_2, .bool a0_3, .int .i64 a0_4, .slice A0_5 l0_5.length c0_5] 24 (0, 0)) (by (with_reducible repeat (first | refine blk_drewN ?_ _ | refine blk_drew ?_ | refine blk_alloc ?_ _)); exact BK340.out) hb); have n4_ := Aside0.mk (below_step (by repeat (first | (with_reducible first | exact HB.out | apply below_alloc | apply pw_below_drewN | apply below_drew1 | refine below_set ?_ GE340.out) | exact HB.out)) hb); have n5_ := Aside0.mk (hbox); have n6_ := Aside0.mk ((by rw [hg]; exact (below_size (by repeat (first | (with_reducible first | exact HB.out | apply below_alloc | apply pw_below_drewN | apply below_drew1 | refine below_set ?_ GE340.out) | exact HB.out))) : w.heap.size ≤ gb360)); have n7_ := Aside0.mk ((by rw [hg]; exact (below_size (by repeat (first | (with_reducible first | exact HB.out | apply below_alloc | apply pw_below_drewN | apply below_drew1 | refine below_set ?_ GE340.out) | exact HB.out))) : w.heap.size ≤ gb360)); have n8_ := Aside0.mk ((by rw [hg]; exact Nat.ne_of_lt (blk_lt (g := gb340) (o := .cells #[.int .i64 a0_0, .int .i64 a0_1, .int .i64 a0_2, .bool a0_3, .int .i64 a0_4, .slice A0_5 l0_5.length c0_5] 24 (0, 0)) (by (with_reducible repeat (first | refine blk_drewN ?_ _ | refine blk_drew ?_ | refine blk_alloc ?_ _)); exact BK340.out)) : gb340 ≠ gb360)); have n9_ := Aside0.mk ((by rw [hg]; exact Nat.ne_of_gt (blk_lt (g := gb340) (o := .cells #[.int .i64 a0_0, .int .i64 a0_1, .int .i64 a0_2, .bool a0_3, .int .i64 a0_4, .slice A0_5 l0_5.length c0_5] 24 (0, 0)) (by (with_reducible repeat (first | refine blk_drewN ?_ _ | refine blk_drew ?_ | refine blk_alloc ?_ _)); exact BK340.out)) : gb360 ≠ gb340)); clear HO_7; clear HO350; clear HO358; clear BK340; clear HB; have HO_7 := n0_; have HO350 := n1_; have HO358 := n2_; have BK340 := n3_; have HB := n4_; have BK360 := n5_; have GW360 := n6_; have GE360 := n7_; have NB340_360 := n8_; have NB360_340 := n9_; clear n0_ n1_ n2_ n3_ n4_ n5_ n6_ n7_ n8_ n9_; clear hb hbox hg; have hnb133 := NB360_340.out; have hnc133 := NB340_360.out; have hcz134_0 : w132.cell? ⟨gb360, 0, none⟩ = some (.int .i64 0) := (blk_cell BK360.out 0).trans rfl; have hcz134_1 : w132.cell? ⟨gb360, 1, none⟩ = some (.int .i64 0) := (blk_cell BK360.out 1).trans rfl; have hcz134_2 : w132.cell? ⟨gb360, 2, none⟩ = some (.int .i64 0) := (blk_cell BK360.out 2).trans rfl; have hcz134_3 : w132.cell? ⟨gb360, 3, none⟩ = some (.bool false) := (blk_cell BK360.out 3).trans rfl; have hcz134_4 : w132.cell? ⟨gb360, 4, none⟩ = some (.int .i64 0) := (blk_cell BK360.out 4).trans rfl; have hcz134_5 : w132.cell? ⟨gb360, 5, none⟩ = some (.slice none 0 0) := (blk_cell BK360.out 5).trans rfl; have hfz134_0 := blk_frozen BK360.out 0; have hfz134_1 := blk_frozen BK360.out 1; have hfz134_2 := blk_frozen BK360.out 2; have hfz134_3 := blk_frozen BK360.out 3; have hfz134_4 := blk_frozen BK360.out 4; have hfz134_5 := blk_frozen BK360.out 5; obtain ⟨Ao135, co135, eo135⟩ := Kd.R_slice HO358.out; subst eo135; have hcz136_0 : w132.cell? ⟨gb340, 0, none⟩ = some (.int .i64 a0_0) := (blk_cell BK340.out 0).trans rfl; have hcz136_1 : w132.cell? ⟨gb340, 1, none⟩ = some (.int .i64 a0_1) := (blk_cell BK340.out 1).trans rfl; have hcz136_2 : w132.cell? ⟨gb340, 2, none⟩ = some (.int .i64 a0_2) := (blk_cell BK340.out 2).trans rfl; have hcz136_3 : w132.cell? ⟨gb340, 3, none⟩ = some (.bool a0_3) := (blk_cell BK340.out 3).trans rfl; have hcz136_4 : w132.cell? ⟨gb340, 4, none⟩ = some (.int .i64 a0_4) := (blk_cell BK340.out 4).trans rfl; have hcz136_5 : w132.cell? ⟨gb340, 5, none⟩ = some (.slice A0_5 l0_5.length c0_5) := (blk_cell BK340.out 5).trans rfl; have hfz136_0 := blk_frozen BK340.out 0; have hfz136_1 := blk_frozen BK340.out 1; have hfz136_2 := blk_frozen BK340.out 2; have hfz136_3 := blk_frozen BK340.out 3; have hfz136_4 := blk_frozen BK340.out 4; have hfz136_5 := blk_frozen BK340.out 5))
              go_ret
              exact ⟨by first | rfl | (simp [errW_none, errW_some] <;> rfl) | (simp [*, errW_none, errW_some] <;> rfl), by repeat (first | (with_reducible first | exact HB.out | apply below_alloc | apply pw_below_drewN | apply below_drew1 | refine below_set ?_ GE340.out | refine below_set ?_ GE360.out) | exact HB.out)⟩
            rw [if_pos c76] at H
            have c76b0 : (a0_0 == 0) = true := beq_iff_eq.mpr c76
            have c76b1 : (a0_0 != 0) = false := bne_eq_false_iff_eq.mpr c76
            clear c76
            by_cases c77 : ((strOfNums x7_2).toList = (strOfNums y348).toList)
            · rw [if_pos c77] at H
              have c77b0 : ((strOfNums x7_2).toList == (strOfNums y348).toList) = true := beq_iff_eq.mpr c77
              exact absurd (c32b0.symm.trans c77b0) (by decide)
            rw [if_neg c77] at H
            have c77b0 : ((strOfNums x7_2).toList == (strOfNums y348).toList) = false := beq_eq_false_iff_ne.mpr c77
            have c77b1 : ((strOfNums x7_2).toList != (strOfNums y348).toList) = true := bne_iff_ne.mpr c77
            obtain rfl := Option.some.inj H
            try go_wp2
            have n0_ := Aside0.mk (Kd.R_drew HO_7.out)
            have n1_ := Aside0.mk (blk_drew BK340.out)
            have n2_ := Aside0.mk (below_drew1 HB.out)
            clear HO_7
            clear BK340
            clear HB
            have HO_7 := n0_
            have BK340 := n1_
            have HB := n2_
            clear n0_ n1_ n2_
            have hcv110 := own_string (P := Try.prog) Try.underlying22 Try.underlying5 Try.underlying9 (Kd.own_of_R HO_7.out)
            have hcd111 := fun (nd_ : Nat) => own_string (P := Try.prog) Try.underlying22 Try.underlying5 Try.underlying9 (Kd.own_of_R (Kd.R_drewN HO_7.out nd_))
            obtain ⟨hcv110T, hcv110H⟩ : ∃ T_ : World → Prop, T_ = X.cvS hcv110 := ⟨_, rfl⟩
            replace hcv110H := Aside0.mk hcv110H
            refine start_ (n := 6) (S := fun w' => True ∧ hcv110T w') (ds := []) #[false, false, false, false, false, false] (by kernel_rfl) rfl rfl ⟨trivial, (by rw [hcv110H.out]; exact own_string (P := Try.prog) Try.underlying22 Try.underlying5 Try.underlying9 (Kd.own_of_R HO_7.out))⟩ (fun hHeld => ?_)
            generalize wr.drew = w109 at HO_7 BK340 HB hHeld ⊢
            first
              | (refine pure_ (i := 0) (N := some 62) (v := ?_) (a' := ?_) #[true, false, false, false, false, false] rfl rfl (by kernel_rfl) (fun _ _ _ h => h) (Or.inl ⟨by rfl, ?_⟩) ?_ ?_
                 rotate_left
                 · intro w'
                   go_simp
                   with_reducible rfl)
              | (refine take_ (i := 0) (N := some 62) (v := ?_) (a' := ?_) #[true, false, false, false, false, false] rfl rfl (by kernel_rfl) (fun _ _ _ h => h) (Or.inl ⟨by rfl, ?_⟩) hHeld ?_ ?_
                 rotate_left
                 · rintro w' ⟨_, cv0_⟩
                   rw [hcv110H.out] at cv0_; unfold X.cvS at cv0_
                   go_simp
                   with_reducible rfl)
            rotate_left
            · simp only [Act.put, List.setIfInBounds_toArray, List.set_cons_zero, List.set_cons_succ, i64_w, i32_w]
              rfl
            first
              | (refine pure_ (i := 1) (N := some 63) (v := ?_) (a' := ?_) #[true, true, false, false, false, false] rfl rfl (by kernel_rfl) (fun _ _ _ h => h) (Or.inl ⟨by rfl, ?_⟩) ?_ ?_
                 rotate_left
                 · intro w'
                   go_simp
                   with_reducible rfl)
              | (refine take_ (i := 1) (N := some 63) (v := ?_) (a' := ?_) #[true, true, false, false, false, false] rfl rfl (by kernel_rfl) (fun _ _ _ h => h) (Or.inl ⟨by rfl, ?_⟩) hHeld ?_ ?_
                 rotate_left
                 · rintro w' ⟨_, cv0_⟩
                   rw [hcv110H.out] at cv0_; unfold X.cvS at cv0_
                   go_simp
                   with_reducible rfl)
            rotate_left
            · simp only [Act.put, List.setIfInBounds_toArray, List.set_cons_zero, List.set_cons_succ, i64_w, i32_w]
              rfl
            refine one_ (i := 2) (N := some 64) #[true, true, true, false, false, false] rfl rfl (by kernel_rfl) (by decide) (fun K hK => ?_)
            refine Kd.R_make_step (Kd.int .u8) _ 5 (by rfl) (N := 64) rfl 22 _ _ rfl 128 rfl rfl Try.underlying22 (.int .u8 0) 1 info5 rfl (by decide) (by omega) 0 (ok := fun _ => True) (okp := fun _ => True) rfl (fun _ hk => hk) trivial (by omega) (by omega) (Below.refl _ _) (Nat.le_refl _) ?_
            intro v349 w112 ho113 hb hg_ hnew_
            clear hg_ hnew_
            (first | rw [← Ny348.out] at ho113 | (simp only [Int.reduceToNat] at ho113; rw [← Ny348.out] at ho113))
            have n0_ := Aside0.mk (Kd.R_elder' (by (with_reducible repeat (first | apply Kd.R_alloc | apply Kd.R_drewN | apply Kd.R_drew)); exact HO_7.out) (Kd.R_base ho113) hb)
            have n1_ := Aside0.mk (Kd.R_lower (Kd.R_new' ho113 (Kd.R_lt (by (with_reducible repeat (first | apply Kd.R_alloc | apply Kd.R_drewN | apply Kd.R_drew)); exact HO_7.out))) (below_size (by repeat (first | (with_reducible first | exact HB.out | apply below_alloc | apply pw_below_drewN | apply below_drew1 | refine below_set ?_ GE340.out) | exact HB.out))))
            have n2_ := Aside0.mk (blk_below (g := gb340) (o := .cells #[.int .i64 a0_0, .int .i64 a0_1, .int .i64 a0_2, .bool a0_3, .int .i64 a0_4, .slice A0_5 l0_5.length c0_5] 24 (0, 0)) (by (with_reducible repeat (first | refine blk_drewN ?_ _ | refine blk_drew ?_ | refine blk_alloc ?_ _)); exact BK340.out) hb)
            have n3_ := Aside0.mk (below_step (by repeat (first | (with_reducible first | exact HB.out | apply below_alloc | apply pw_below_drewN | apply below_drew1 | refine below_set ?_ GE340.out) | exact HB.out)) hb)
            clear HO_7
            clear BK340
            clear HB
            have HO_7 := n0_
            have HO350 := n1_
            have BK340 := n2_
            have HB := n3_
            clear n0_ n1_ n2_ n3_
            clear hb ho113
            refine hK.out _ _ ⟨trivial, (by rw [hcv110H.out]; exact own_string (P := Try.prog) Try.underlying22 Try.underlying5 Try.underlying9 (Kd.own_of_R HO_7.out))⟩ (fun hHeld => ?_)
            clear hK K
            refine norm_ (a' := ?_) ?_ ?_
            rotate_left
            · show Act.put _ (some 64) _ = _
              simp only [Act.put, List.setIfInBounds_toArray, List.set_cons_zero, List.set_cons_succ, i64_w, i32_w]
              rfl
            refine one_ (i := 3) (N := some 65) #[true, true, true, true, false, false] rfl rfl (by kernel_rfl) (by decide) (fun K hK => ?_)
            have hcv114 := own_string (P := Try.prog) Try.underlying22 Try.underlying5 Try.underlying9 (Kd.own_of_R HO350.out)
            refine value_ (w1 := ?_) (v := ?_) (by rfl) rfl ?_ ?_
            rotate_left 2
            · go_simp
              constructor
              · rfl
              · rfl
            clear hcv114
            refine hK.out _ _ ⟨trivial, (by rw [hcv110H.out]; exact own_string (P := Try.prog) Try.underlying22 Try.underlying5 Try.underlying9 (Kd.own_of_R HO_7.out))⟩ (fun hHeld => ?_)
            clear hK K
            refine norm_ (a' := ?_) ?_ ?_
            rotate_left
            · show Act.put _ (some 65) _ = _
              simp only [Act.put, List.setIfInBounds_toArray, List.set_cons_zero, List.set_cons_succ, i64_w, i32_w]
              rfl
            first
              | (refine pure_ (i := 4) (N := some 66) (v := ?_) (a' := ?_) #[true, true, true, true, true, false] rfl rfl (by kernel_rfl) (fun _ _ _ h => h) (Or.inl ⟨by rfl, ?_⟩) ?_ ?_
                 rotate_left
                 · intro w'
                   go_simp
                   with_reducible rfl)
              | (refine take_ (i := 4) (N := some 66) (v := ?_) (a' := ?_) #[true, true, true, true, true, false] rfl rfl (by kernel_rfl) (fun _ _ _ h => h) (Or.inl ⟨by rfl, ?_⟩) hHeld ?_ ?_
                 rotate_left
                 · rintro w' ⟨_, cv0_⟩
                   rw [hcv110H.out] at cv0_; unfold X.cvS at cv0_
                   go_simp
                   with_reducible rfl)
            rotate_left
            · simp only [Act.put, List.setIfInBounds_toArray, List.set_cons_zero, List.set_cons_succ, i64_w, i32_w]
              rfl
            first
              | (refine pure_ (i := 5) (N := some 13) (v := ?_) (a' := ?_) #[true, true, true, true, true, true] rfl rfl (by kernel_rfl) (fun _ _ _ h => h) (Or.inl ⟨by rfl, ?_⟩) ?_ ?_
                 rotate_left
                 · intro w'
                   go_simp
                   with_reducible rfl)
              | (refine take_ (i := 5) (N := some 13) (v := ?_) (a' := ?_) #[true, true, true, true, true, true] rfl rfl (by kernel_rfl) (fun _ _ _ h => h) (Or.inl ⟨by rfl, ?_⟩) hHeld ?_ ?_
                 rotate_left
                 · rintro w' ⟨_, cv0_⟩
                   rw [hcv110H.out] at cv0_; unfold X.cvS at cv0_
                   go_simp
                   with_reducible rfl)
            rotate_left
            · simp only [Act.put, List.setIfInBounds_toArray, List.set_cons_zero, List.set_cons_succ, i64_w, i32_w]
              rfl
            refine done_ (by kernel_rfl) ?_
            obtain ⟨Ao116, co116, eo116⟩ := Kd.R_slice HO_7.out
            subst eo116
            try go_wp2_with (first | ((with_reducible refine gate_callee (f := 15) rfl ?_); refine goesL_ (some 69) rfl rfl Try.func15 (by kernel_rfl) rfl #[.slice Ao116 x7_2.length co116, .int .i64 7] rfl (by (try simp only [List.map_toArray, List.map_cons, List.map_nil]); first | done | rfl | (simp only [List.length_drop, List.length_take]; rfl)) ?_; (with_reducible refine (inode_Decode.calls k2 _ _ x7_2 7 t351 t352 t353 t354 t355 t356 t359 _ ?side1 ?side2 A31.out).mono ?_); (case side1 => repeat (first | exact (Kd.R_reads' HO_7.out).2.2 | (with_reducible refine Kd.C_alloc ?_ _) | (with_reducible refine Kd.C_drewN ?_ _) | (with_reducible refine Kd.C_drew ?_))); (case side2 => exact (Kd.R_reads' HO_7.out).2.1); rintro e w117 ⟨v357, rfl, ho0, hb⟩; refine ⟨_, rfl, ?_⟩; have n0_ := Aside0.mk (Kd.R_elder' (by (with_reducible repeat (first | apply Kd.R_alloc | apply Kd.R_drewN | apply Kd.R_drew)); exact HO_7.out) (Kd.R_base ho0) hb); have n1_ := Aside0.mk (Kd.R_elder' (by (with_reducible repeat (first | apply Kd.R_alloc | apply Kd.R_drewN | apply Kd.R_drew)); exact HO350.out) (Kd.R_base ho0) hb); have n2_ := Aside0.mk (Kd.R_lower (Kd.R_new' (Kd.R_new' ho0 (Kd.R_lt (by (with_reducible repeat (first | apply Kd.R_alloc | apply Kd.R_drewN | apply Kd.R_drew)); exact HO_7.out))) (Kd.R_lt (by (with_reducible repeat (first | apply Kd.R_alloc | apply Kd.R_drewN | apply Kd.R_drew)); exact HO350.out))) (below_size (by repeat (first | (with_reducible first | exact HB.out | apply below_alloc | apply pw_below_drewN | apply below_drew1 | refine below_set ?_ GE340.out) | exact HB.out)))); have n3_ := Aside0.mk (blk_below (g := gb340) (o := .cells #[.int .i64 a0_0, .int .i64 a0_1, .int .i64 a0_2, .bool a0_3, .int .i64 a0_4, .slice A0_5 l0_5.length c0_5] 24 (0, 0)) (by (with_reducible repeat (first | refine blk_drewN ?_ _ | refine blk_drew ?_ | refine blk_alloc ?_ _)); exact BK340.out) hb); have n4_ := Aside0.mk (below_step (by repeat (first | (with_reducible first | exact HB.out | apply below_alloc | apply pw_below_drewN | apply below_drew1 | refine below_set ?_ GE340.out) | exact HB.out)) hb); clear HO_7; clear HO350; clear BK340; clear HB; have HO_7 := n0_; have HO350 := n1_; have HO358 := n2_; have BK340 := n3_; have HB := n4_; clear n0_ n1_ n2_ n3_ n4_; (try clear hb); (try clear hb2); (try clear hk); (try clear hi); (try clear ho0)) | ((with_reducible refine gate_dst (N := 14) rfl ?_); (try (refine gate_guard (by rfl) ?_; dsimp only)); refine box_event ?hg (N := 14) ?hd (cs := #[.int .i64 0, .int .i64 0, .int .i64 0, .bool false, .int .i64 0, .slice none 0 0]) (t := 24) ?hr ?_; (case hd => rfl); (case hg => rfl); (case hr => first | (go_simp; done) | (go_simp; rfl)); intro gb360 hg w118 hbox hb; have n0_ := Aside0.mk (Kd.R_below (by (with_reducible repeat (first | apply Kd.R_alloc | apply Kd.R_drewN | apply Kd.R_drew)); exact HO_7.out) hb); have n1_ := Aside0.mk (Kd.R_below (by (with_reducible repeat (first | apply Kd.R_alloc | apply Kd.R_drewN | apply Kd.R_drew)); exact HO350.out) hb); have n2_ := Aside0.mk (Kd.R_below (by (with_reducible repeat (first | apply Kd.R_alloc | apply Kd.R_drewN | apply Kd.R_drew)); exact HO358.out) hb); have n3_ := Aside0.mk (blk_below (g := gb340) (o := .cells #[.int .i64 a0_0, .int .i64 a0_1, .int .i64 a0_2, .bool a0_3, .int .i64 a0_4, .slice A0_5 l0_5.length c0_5] 24 (0, 0)) (by (with_reducible repeat (first | refine blk_drewN ?_ _ | refine blk_drew ?_ | refine blk_alloc ?_ _)); exact BK340.out) hb); have n4_ := Aside0.mk (below_step (by repeat (first | (with_reducible first | exact HB.out | apply below_alloc | apply pw_below_drewN | apply below_drew1 | refine below_set ?_ GE340.out) | exact HB.out)) hb); have n5_ := Aside0.mk (hbox); have n6_ := Aside0.mk ((by rw [hg]; exact (below_size (by repeat (first | (with_reducible first | exact HB.out | apply below_alloc | apply pw_below_drewN | apply below_drew1 | refine below_set ?_ GE340.out) | exact HB.out))) : w.heap.size ≤ gb360)); have n7_ := Aside0.mk ((by rw [hg]; exact (below_size (by repeat (first | (with_reducible first | exact HB.out | apply below_alloc | apply pw_below_drewN | apply below_drew1 | refine below_set ?_ GE340.out) | exact HB.out))) : w.heap.size ≤ gb360)); have n8_ := Aside0.mk ((by rw [hg]; exact Nat.ne_of_lt (blk_lt (g := gb340) (o := .cells #[.int .i64 a0_0, .int .i64 a0_1, .int .i64 a0_2, .bool a0_3, .int .i64 a0_4, .slice A0_5 l0_5.length c0_5] 24 (0, 0)) (by (with_reducible repeat (first | refine blk_drewN ?_ _ | refine blk_drew ?_ | refine blk_alloc ?_ _)); exact BK340.out)) : gb340 ≠ gb360)); have n9_ := Aside0.mk ((by rw [hg]; exact Nat.ne_of_gt (blk_lt (g := gb340) (o := .cells #[.int .i64 a0_0, .int .i64 a0_1, .int .i64 a0_2, .bool a0_3, .int .i64 a0_4, .slice A0_5 l0_5.length c0_5] 24 (0, 0)) (by (with_reducible repeat (first | refine blk_drewN ?_ _ | refine blk_drew ?_ | refine blk_alloc ?_ _)); exact BK340.out)) : gb360 ≠ gb340)); clear HO_7; clear HO350; clear HO358; clear BK340; clear HB; have HO_7 := n0_; have HO350 := n1_; have HO358 := n2_; have BK340 := n3_; have HB := n4_; have BK360 := n5_; have GW360 := n6_; have GE360 := n7_; have NB340_360 := n8_; have NB360_340 := n9_; clear n0_ n1_ n2_ n3_ n4_ n5_ n6_ n7_ n8_ n9_; clear hb hbox hg; have hnb119 := NB360_340.out; have hnc119 := NB340_360.out; have hcz120_0 : w118.cell? ⟨gb360, 0, none⟩ = some (.int .i64 0) := (blk_cell BK360.out 0).trans rfl; have hcz120_1 : w118.cell? ⟨gb360, 1, none⟩ = some (.int .i64 0) := (blk_cell BK360.out 1).trans rfl; have hcz120_2 : w118.cell? ⟨gb360, 2, none⟩ = some (.int .i64 0) := (blk_cell BK360.out 2).trans rfl; have hcz120_3 : w118.cell? ⟨gb360, 3, none⟩ = some (.bool false) := (blk_cell BK360.out 3).trans rfl; have hcz120_4 : w118.cell? ⟨gb360, 4, none⟩ = some (.int .i64 0) := (blk_cell BK360.out 4).trans rfl; have hcz120_5 : w118.cell? ⟨gb360, 5, none⟩ = some (.slice none 0 0) := (blk_cell BK360.out 5).trans rfl; have hfz120_0 := blk_frozen BK360.out 0; have hfz120_1 := blk_frozen BK360.out 1; have hfz120_2 := blk_frozen BK360.out 2; have hfz120_3 := blk_frozen BK360.out 3; have hfz120_4 := blk_frozen BK360.out 4; have hfz120_5 := blk_frozen BK360.out 5; obtain ⟨Ao121, co121, eo121⟩ := Kd.R_slice HO358.out; subst eo121; have hcz122_0 : w118.cell? ⟨gb340, 0, none⟩ = some (.int .i64 a0_0) := (blk_cell BK340.out 0).trans rfl; have hcz122_1 : w118.cell? ⟨gb340, 1, none⟩ = some (.int .i64 a0_1) := (blk_cell BK340.out 1).trans rfl; have hcz122_2 : w118.cell? ⟨gb340, 2, none⟩ = some (.int .i64 a0_2) := (blk_cell BK340.out 2).trans rfl; have hcz122_3 : w118.cell? ⟨gb340, 3, none⟩ = some (.bool a0_3) := (blk_cell BK340.out 3).trans rfl; have hcz122_4 : w118.cell? ⟨gb340, 4, none⟩ = some (.int .i64 a0_4) := (blk_cell BK340.out 4).trans rfl; have hcz122_5 : w118.cell? ⟨gb340, 5, none⟩ = some (.slice A0_5 l0_5.length c0_5) := (blk_cell BK340.out 5).trans rfl; have hfz122_0 := blk_frozen BK340.out 0; have hfz122_1 := blk_frozen BK340.out 1; have hfz122_2 := blk_frozen BK340.out 2; have hfz122_3 := blk_frozen BK340.out 3; have hfz122_4 := blk_frozen BK340.out 4; have hfz122_5 := blk_frozen BK340.out 5))
            go_ret
            exact ⟨by first | rfl | (simp [errW_none, errW_some] <;> rfl) | (simp [*, errW_none, errW_some] <;> rfl), by repeat (first | (with_reducible first | exact HB.out | apply below_alloc | apply pw_below_drewN | apply below_drew1 | refine below_set ?_ GE340.out | refine below_set ?_ GE360.out) | exact HB.out)⟩
  · replace c5 := Bool.eq_false_iff.mpr c5
    subst c5
    have H1 : (some false) = some r := by rw [if_neg (show ¬ (false = true) by decide)] at H; exact H
    clear H
    have H := H1
    clear H1
    exact absurd (Option.some.inj H) (by rw [hT]; decide)

end Go.Proofs.Ytkpkmkgmpggjaaa.U
