/- Written by uprint.py (ours) for this seat: functions of the translation as Lean functions, and what their calls do. Not trusted: Lean checks it. -/
import Derived.Test.YtlhpejdbmbpmhaaUx0
import Derived.Test.YtlhpejdbmbpmhaaUx6
import Derived.Test.YtlhpejdbmbpmhaaUx7
import Derived.Test.YtlhpejdbmbpmhaaUx8
namespace Go.Proofs.Ytlhpejdbmbpmhaa.U
open Go.RowKit Go.Proofs.YtlhpejdbmbpmhaaW.PrintWords Go.Proofs.YtlhpejdbmbpmhaaW.PrintLast Go.Proofs.YtlhpejdbmbpmhaaW.PrintMore
attribute [local go_sem] max2_int min2_int max_two min_two max_three min_three max_four min_four   -- for this text's walks alone
set_option linter.unusedVariables false
set_option linter.unusedSimpArgs false

/-! ### undercroftlaw08_BuddyBest: function 4 -/
def undercroftlaw08_BuddyBest.l1 : Nat → List Int → Int → Int → Int → Int → Int → Int → Int → Int → Option (Bool)
  | 0, _, _, _, _, _, _, _, _, _ => none
  | k + 1, x8, x10, x11, x12, x193000, x193001, x193002, x201000, x201001 => if x12 < (x8.length : Int) then (if 0 ≤ x12 then (if (rd x8 x12) > 0 then (undercroftlaw08_BuddyBest.l1 k x8 x10 x12 (wrap64 (x12 + 1)) x193000 x193001 x193002 x201000 x201001) else (undercroftlaw08_BuddyBest.l1 k x8 x10 x11 (wrap64 (x12 + 1)) x193000 x193001 x193002 x201000 x201001)) else (none)) else (if 0 ≤ (mn x10 x11) then (if x201001 = (mn x193001 (shl .i64 1 (mn x10 x11))) then (if (shl .i64 1 (mn x10 x11)) = 0 then (none) else (some ((Int.tmod x201000 (shl .i64 1 (mn x10 x11))) == 0))) else (some false)) else (none))
def undercroftlaw08_BuddyBest.l0 : Nat → List Int → Int → Int → Int → Int → Int → Int → Option (Bool)
  | 0, _, _, _, _, _, _, _ => none
  | k + 1, x8, x10, x193000, x193001, x193002, x201000, x201001 => if 0 ≤ x10 then (if (shl .i64 1 x10) < x193001 then (undercroftlaw08_BuddyBest.l0 k x8 (wrap64 (x10 + 1)) x193000 x193001 x193002 x201000 x201001) else (undercroftlaw08_BuddyBest.l1 k x8 x10 (-1) 0 x193000 x193001 x193002 x201000 x201001)) else (none)
def undercroftlaw08_BuddyBest.j0 : Nat → List Int → Bool → Int → Int → Int → Int → Int → Option (Bool)
  | 0, _, _, _, _, _, _, _ => none
  | k + 1, x8, x40, x193000, x193001, x193002, x201000, x201001 => if x40 = true then (some true) else (undercroftlaw08_BuddyBest.l0 k x8 0 x193000 x193001 x193002 x201000 x201001)
def undercroftlaw08_BuddyBest.f (k : Nat) (l0 : List Int) (a1_0 : Int) (a1_1 : Int) (a1_2 : Int) : Option (Bool) := (undercroftlaw08_alive.f k).bind fun t193 => (if t193 = true then ((buddy_Take.f k l0 a1_0 a1_1 a1_2).bind fun bt194 => ((buddy_Orders.f k l0 a1_0).bind fun bt201 => (if bt194.2.2.2 = 0 then (undercroftlaw08_BuddyBest.j0 k bt201.1 (bt201.2 != 0) a1_0 a1_1 a1_2 bt194.2.1 bt194.2.2.1) else (undercroftlaw08_BuddyBest.j0 k bt201.1 true a1_0 a1_1 a1_2 bt194.2.1 bt194.2.2.1)))) else (some false))
theorem undercroftlaw08_BuddyBest.mono_l : ∀ k, (∀ y0 y1 y2 y3 y4 y5 y6, LeO (undercroftlaw08_BuddyBest.j0 k y0 y1 y2 y3 y4 y5 y6) (undercroftlaw08_BuddyBest.j0 (k + 1) y0 y1 y2 y3 y4 y5 y6)) ∧ (∀ y0 y1 y2 y3 y4 y5 y6, LeO (undercroftlaw08_BuddyBest.l0 k y0 y1 y2 y3 y4 y5 y6) (undercroftlaw08_BuddyBest.l0 (k + 1) y0 y1 y2 y3 y4 y5 y6)) ∧ (∀ y0 y1 y2 y3 y4 y5 y6 y7 y8, LeO (undercroftlaw08_BuddyBest.l1 k y0 y1 y2 y3 y4 y5 y6 y7 y8) (undercroftlaw08_BuddyBest.l1 (k + 1) y0 y1 y2 y3 y4 y5 y6 y7 y8))
  | 0 => ⟨fun _ _ _ _ _ _ _ r h => by simp [undercroftlaw08_BuddyBest.j0] at h, fun _ _ _ _ _ _ _ r h => by simp [undercroftlaw08_BuddyBest.l0] at h, fun _ _ _ _ _ _ _ _ _ r h => by simp [undercroftlaw08_BuddyBest.l1] at h⟩
  | k + 1 => by
    obtain ⟨ih0, ih1, ih2⟩ := undercroftlaw08_BuddyBest.mono_l k
    refine ⟨?_, ?_, ?_⟩
    · intro y0 y1 y2 y3 y4 y5 y6
      unfold undercroftlaw08_BuddyBest.j0
      repeat' first
      | (with_reducible exact ih0 _ _ _ _ _ _ _)
      | (with_reducible exact ih1 _ _ _ _ _ _ _)
      | (with_reducible exact ih2 _ _ _ _ _ _ _ _ _)
      | (with_reducible exact buddy_Orders.mono _ _ _)
      | (with_reducible exact buddy_Take.mono _ _ _ _ _)
      | (with_reducible exact undercroftlaw08_alive.mono _)
      | (with_reducible exact LeO.refl _)
      | (with_reducible exact LeO.none _)
      | (with_reducible refine LeO.ite ?_ ?_)
      | (with_reducible refine LeO.bind ?_ (fun _ => ?_))
      | exact ih0 _ _ _ _ _ _ _
      | exact ih1 _ _ _ _ _ _ _
      | exact ih2 _ _ _ _ _ _ _ _ _
      | exact buddy_Orders.mono _ _ _
      | exact buddy_Take.mono _ _ _ _ _
      | exact undercroftlaw08_alive.mono _
      | exact LeO.none _
      | refine LeO.ite ?_ ?_
      | refine LeO.bind ?_ (fun _ => ?_)
    · intro y0 y1 y2 y3 y4 y5 y6
      unfold undercroftlaw08_BuddyBest.l0
      repeat' first
      | (with_reducible exact ih0 _ _ _ _ _ _ _)
      | (with_reducible exact ih1 _ _ _ _ _ _ _)
      | (with_reducible exact ih2 _ _ _ _ _ _ _ _ _)
      | (with_reducible exact buddy_Orders.mono _ _ _)
      | (with_reducible exact buddy_Take.mono _ _ _ _ _)
      | (with_reducible exact undercroftlaw08_alive.mono _)
      | (with_reducible exact LeO.refl _)
      | (with_reducible exact LeO.none _)
      | (with_reducible refine LeO.ite ?_ ?_)
      | (with_reducible refine LeO.bind ?_ (fun _ => ?_))
      | exact ih0 _ _ _ _ _ _ _
      | exact ih1 _ _ _ _ _ _ _
      | exact ih2 _ _ _ _ _ _ _ _ _
      | exact buddy_Orders.mono _ _ _
      | exact buddy_Take.mono _ _ _ _ _
      | exact undercroftlaw08_alive.mono _
      | exact LeO.none _
      | refine LeO.ite ?_ ?_
      | refine LeO.bind ?_ (fun _ => ?_)
    · intro y0 y1 y2 y3 y4 y5 y6 y7 y8
      unfold undercroftlaw08_BuddyBest.l1
      repeat' first
      | (with_reducible exact ih0 _ _ _ _ _ _ _)
      | (with_reducible exact ih1 _ _ _ _ _ _ _)
      | (with_reducible exact ih2 _ _ _ _ _ _ _ _ _)
      | (with_reducible exact buddy_Orders.mono _ _ _)
      | (with_reducible exact buddy_Take.mono _ _ _ _ _)
      | (with_reducible exact undercroftlaw08_alive.mono _)
      | (with_reducible exact LeO.refl _)
      | (with_reducible exact LeO.none _)
      | (with_reducible refine LeO.ite ?_ ?_)
      | (with_reducible refine LeO.bind ?_ (fun _ => ?_))
      | exact ih0 _ _ _ _ _ _ _
      | exact ih1 _ _ _ _ _ _ _
      | exact ih2 _ _ _ _ _ _ _ _ _
      | exact buddy_Orders.mono _ _ _
      | exact buddy_Take.mono _ _ _ _ _
      | exact undercroftlaw08_alive.mono _
      | exact LeO.none _
      | refine LeO.ite ?_ ?_
      | refine LeO.bind ?_ (fun _ => ?_)
theorem undercroftlaw08_BuddyBest.mono : ∀ a0 a1 a2 a3 k, LeO (undercroftlaw08_BuddyBest.f k a0 a1 a2 a3) (undercroftlaw08_BuddyBest.f (k + 1) a0 a1 a2 a3) := by
  intro a0 a1 a2 a3 k
  obtain ⟨ih0, ih1, ih2⟩ := undercroftlaw08_BuddyBest.mono_l k
  unfold undercroftlaw08_BuddyBest.f
  repeat' first
      | (with_reducible exact ih0 _ _ _ _ _ _ _)
      | (with_reducible exact ih1 _ _ _ _ _ _ _)
      | (with_reducible exact ih2 _ _ _ _ _ _ _ _ _)
      | (with_reducible exact buddy_Orders.mono _ _ _)
      | (with_reducible exact buddy_Take.mono _ _ _ _ _)
      | (with_reducible exact undercroftlaw08_alive.mono _)
      | (with_reducible exact LeO.refl _)
      | (with_reducible exact LeO.none _)
      | (with_reducible refine LeO.ite ?_ ?_)
      | (with_reducible refine LeO.bind ?_ (fun _ => ?_))
      | exact ih0 _ _ _ _ _ _ _
      | exact ih1 _ _ _ _ _ _ _
      | exact ih2 _ _ _ _ _ _ _ _ _
      | exact buddy_Orders.mono _ _ _
      | exact buddy_Take.mono _ _ _ _ _
      | exact undercroftlaw08_alive.mono _
      | exact LeO.none _
      | refine LeO.ite ?_ ?_
      | refine LeO.bind ?_ (fun _ => ?_)
set_option maxHeartbeats 8000000 in
set_option maxRecDepth 100000 in
theorem undercroftlaw08_BuddyBest.calls (k : Nat) (A0 : Option Addr) (c0 : Nat) (l0 : List Int) (a1_0 : Int) (a1_1 : Int) (a1_2 : Int) (r : Bool) (w : World) (hr0 : Kd.C (Kd.int .u8) w A0 l0.length l0) (hc0 : l0.length ≤ c0) (h : undercroftlaw08_BuddyBest.f k l0 a1_0 a1_1 a1_2 = some r) (hT : r = true) :
    Calls Try.prog 4 #[.slice A0 l0.length c0, .agg #[.int .i64 a1_0, .int .i64 a1_1, .int .i64 a1_2]] w fun e w' => e = .returned (.bool r) ∧ Below w.heap.size w w' := by
  have hu24 := Try.underlying24
  have hu27 := Try.underlying27
  have HR0 := Aside0.mk hr0
  have HC0 := Aside0.mk hc0
  clear hr0 hc0
  have HB := Aside0.mk (Below.refl w.heap.size w)
  have H : ((undercroftlaw08_alive.f k).bind fun t193 => (if t193 = true then ((buddy_Take.f k l0 a1_0 a1_1 a1_2).bind fun bt194 => ((buddy_Orders.f k l0 a1_0).bind fun bt201 => (if bt194.2.2.2 = 0 then (undercroftlaw08_BuddyBest.j0 k bt201.1 (bt201.2 != 0) a1_0 a1_1 a1_2 bt194.2.1 bt194.2.2.1) else (undercroftlaw08_BuddyBest.j0 k bt201.1 true a1_0 a1_1 a1_2 bt194.2.1 bt194.2.2.1)))) else (some false))) = some r := h
  clear h
  replace H := Option.bind_eq_some_iff.mp H
  obtain ⟨t193, A30, H⟩ := H
  replace H : (if t193 = true then ((buddy_Take.f k l0 a1_0 a1_1 a1_2).bind fun bt194 => ((buddy_Orders.f k l0 a1_0).bind fun bt201 => (if bt194.2.2.2 = 0 then (undercroftlaw08_BuddyBest.j0 k bt201.1 (bt201.2 != 0) a1_0 a1_1 a1_2 bt194.2.1 bt194.2.2.1) else (undercroftlaw08_BuddyBest.j0 k bt201.1 true a1_0 a1_1 a1_2 bt194.2.1 bt194.2.2.1)))) else (some false)) = some r := H
  have A3 := Aside0.mk A30
  clear A30
  by_cases c4 : t193 = true
  · subst c4
    have H1 : ((buddy_Take.f k l0 a1_0 a1_1 a1_2).bind fun bt194 => ((buddy_Orders.f k l0 a1_0).bind fun bt201 => (if bt194.2.2.2 = 0 then (undercroftlaw08_BuddyBest.j0 k bt201.1 (bt201.2 != 0) a1_0 a1_1 a1_2 bt194.2.1 bt194.2.2.1) else (undercroftlaw08_BuddyBest.j0 k bt201.1 true a1_0 a1_1 a1_2 bt194.2.1 bt194.2.2.1)))) = some r := by rw [if_pos rfl] at H; exact H
    clear H
    have H := H1
    clear H1
    replace H := Option.bind_eq_some_iff.mp H
    obtain ⟨⟨t194, t197, t198, t199⟩, A50, H⟩ := H
    replace H : ((buddy_Orders.f k l0 a1_0).bind fun bt201 => (if t199 = 0 then (undercroftlaw08_BuddyBest.j0 k bt201.1 (bt201.2 != 0) a1_0 a1_1 a1_2 t197 t198) else (undercroftlaw08_BuddyBest.j0 k bt201.1 true a1_0 a1_1 a1_2 t197 t198))) = some r := H
    have A5 := Aside0.mk A50
    clear A50
    replace H := Option.bind_eq_some_iff.mp H
    obtain ⟨⟨t201, t202⟩, A60, H⟩ := H
    replace H : (if t199 = 0 then (undercroftlaw08_BuddyBest.j0 k t201 (t202 != 0) a1_0 a1_1 a1_2 t197 t198) else (undercroftlaw08_BuddyBest.j0 k t201 true a1_0 a1_1 a1_2 t197 t198)) = some r := H
    have A6 := Aside0.mk A60
    clear A60
    have HC7 := Aside0.mk H
    clear H
    go_enter Try.func4, Try.ntmps4
    go_upto_region 5 with (first | ((with_reducible refine gate_dst (N := 3) rfl ?_); refine box_event ?hg (N := 3) ?hd (cs := #[.int .i64 a1_0, .int .i64 a1_1, .int .i64 a1_2]) (t := 24) ?hr ?_; (case hd => rfl); (case hg => rfl); (case hr => go_simp; first | done | rfl); intro gb192 hg w8 hbox hb; have n0_ := Aside0.mk (below_step (by repeat (first | (with_reducible first | exact HB.out | apply below_alloc | apply pw_below_drewN | apply below_drew1) | exact HB.out)) hb); have n1_ := Aside0.mk (hbox); have n2_ := Aside0.mk ((by rw [hg]; exact (below_size (by repeat (first | (with_reducible first | exact HB.out | apply below_alloc | apply pw_below_drewN | apply below_drew1) | exact HB.out))) : w.heap.size ≤ gb192)); have n3_ := Aside0.mk ((by rw [hg]; exact (below_size (by repeat (first | (with_reducible first | exact HB.out | apply below_alloc | apply pw_below_drewN | apply below_drew1) | exact HB.out))) : w.heap.size ≤ gb192)); clear HB; have HB := n0_; have BK192 := n1_; have GW192 := n2_; have GE192 := n3_; clear n0_ n1_ n2_ n3_; clear hb hbox hg) | (go_at_call 10; (with_reducible refine (undercroftlaw08_alive.calls k  true _ A3.out rfl).mono ?_); rintro e w9 ⟨rfl, hb⟩; have n0_ := Aside0.mk (blk_below (g := gb192) (o := .cells #[.int .i64 a1_0, .int .i64 a1_1, .int .i64 a1_2] 24 (0, 0)) (by (with_reducible repeat (first | refine blk_drewN ?_ _ | refine blk_drew ?_ | refine blk_alloc ?_ _)); exact BK192.out) hb); have n1_ := Aside0.mk (below_step (by repeat (first | (with_reducible first | exact HB.out | apply below_alloc | apply pw_below_drewN | apply below_drew1 | refine below_set ?_ GE192.out) | exact HB.out)) hb); clear BK192; clear HB; have BK192 := n0_; have HB := n1_; clear n0_ n1_; (try clear hb); (try clear hb2); (try clear hk); (try clear hi); have hcz10_0 : w9.cell? ⟨gb192, 0, none⟩ = some (.int .i64 a1_0) := (blk_cell BK192.out 0).trans rfl; have hcz10_1 : w9.cell? ⟨gb192, 1, none⟩ = some (.int .i64 a1_1) := (blk_cell BK192.out 1).trans rfl; have hcz10_2 : w9.cell? ⟨gb192, 2, none⟩ = some (.int .i64 a1_2) := (blk_cell BK192.out 2).trans rfl; have hfz10_0 := blk_frozen BK192.out 0; have hfz10_1 := blk_frozen BK192.out 1; have hfz10_2 := blk_frozen BK192.out 2) | (go_at_call 11; (with_reducible refine (buddy_Take.calls k _ _ l0 a1_0 a1_1 a1_2 t194 t197 t198 t199 _ ?side1 ?side2 A5.out).mono ?_); (case side1 => repeat (first | exact (Kd.C_below HR0.out HB.out) | (with_reducible refine Kd.C_alloc ?_ _) | (with_reducible refine Kd.C_drewN ?_ _) | (with_reducible refine Kd.C_drew ?_))); (case side2 => exact HC0.out); rintro e w11 ⟨v195, rfl, ho0, hb⟩; have n0_ := Aside0.mk (Kd.R_lower ho0 (below_size (by repeat (first | (with_reducible first | exact HB.out | apply below_alloc | apply pw_below_drewN | apply below_drew1 | refine below_set ?_ GE192.out) | exact HB.out)))); have n1_ := Aside0.mk (blk_below (g := gb192) (o := .cells #[.int .i64 a1_0, .int .i64 a1_1, .int .i64 a1_2] 24 (0, 0)) (by (with_reducible repeat (first | refine blk_drewN ?_ _ | refine blk_drew ?_ | refine blk_alloc ?_ _)); exact BK192.out) hb); have n2_ := Aside0.mk (below_step (by repeat (first | (with_reducible first | exact HB.out | apply below_alloc | apply pw_below_drewN | apply below_drew1 | refine below_set ?_ GE192.out) | exact HB.out)) hb); clear BK192; clear HB; have HO196 := n0_; have BK192 := n1_; have HB := n2_; clear n0_ n1_ n2_; (try clear hb); (try clear hb2); (try clear hk); (try clear hi); (try clear ho0)) | ((with_reducible refine gate_dst (N := 6) rfl ?_); refine box_event ?hg (N := 6) ?hd (cs := #[.int .i64 0, .int .i64 0]) (t := 27) ?hr ?_; (case hd => rfl); (case hg => rfl); (case hr => go_simp; first | done | rfl); intro gb200 hg w12 hbox hb; have n0_ := Aside0.mk (Kd.R_below (by (with_reducible repeat (first | apply Kd.R_alloc | apply Kd.R_drewN | apply Kd.R_drew)); exact HO196.out) hb); have n1_ := Aside0.mk (blk_below (g := gb192) (o := .cells #[.int .i64 a1_0, .int .i64 a1_1, .int .i64 a1_2] 24 (0, 0)) (by (with_reducible repeat (first | refine blk_drewN ?_ _ | refine blk_drew ?_ | refine blk_alloc ?_ _)); exact BK192.out) hb); have n2_ := Aside0.mk (below_step (by repeat (first | (with_reducible first | exact HB.out | apply below_alloc | apply pw_below_drewN | apply below_drew1 | refine below_set ?_ GE192.out) | exact HB.out)) hb); have n3_ := Aside0.mk (hbox); have n4_ := Aside0.mk ((by rw [hg]; exact (below_size (by repeat (first | (with_reducible first | exact HB.out | apply below_alloc | apply pw_below_drewN | apply below_drew1 | refine below_set ?_ GE192.out) | exact HB.out))) : w.heap.size ≤ gb200)); have n5_ := Aside0.mk ((by rw [hg]; exact (below_size (by repeat (first | (with_reducible first | exact HB.out | apply below_alloc | apply pw_below_drewN | apply below_drew1 | refine below_set ?_ GE192.out) | exact HB.out))) : w.heap.size ≤ gb200)); have n6_ := Aside0.mk ((by rw [hg]; exact Nat.ne_of_lt (blk_lt (g := gb192) (o := .cells #[.int .i64 a1_0, .int .i64 a1_1, .int .i64 a1_2] 24 (0, 0)) (by (with_reducible repeat (first | refine blk_drewN ?_ _ | refine blk_drew ?_ | refine blk_alloc ?_ _)); exact BK192.out)) : gb192 ≠ gb200)); have n7_ := Aside0.mk ((by rw [hg]; exact Nat.ne_of_gt (blk_lt (g := gb192) (o := .cells #[.int .i64 a1_0, .int .i64 a1_1, .int .i64 a1_2] 24 (0, 0)) (by (with_reducible repeat (first | refine blk_drewN ?_ _ | refine blk_drew ?_ | refine blk_alloc ?_ _)); exact BK192.out)) : gb200 ≠ gb192)); clear HO196; clear BK192; clear HB; have HO196 := n0_; have BK192 := n1_; have HB := n2_; have BK200 := n3_; have GW200 := n4_; have GE200 := n5_; have NB192_200 := n6_; have NB200_192 := n7_; clear n0_ n1_ n2_ n3_ n4_ n5_ n6_ n7_; clear hb hbox hg; have hnb13 := NB200_192.out; have hnc13 := NB192_200.out; have hcz14_0 : w12.cell? ⟨gb200, 0, none⟩ = some (.int .i64 0) := (blk_cell BK200.out 0).trans rfl; have hcz14_1 : w12.cell? ⟨gb200, 1, none⟩ = some (.int .i64 0) := (blk_cell BK200.out 1).trans rfl; have hfz14_0 := blk_frozen BK200.out 0; have hfz14_1 := blk_frozen BK200.out 1; have hcz15_0 : w12.cell? ⟨gb192, 0, none⟩ = some (.int .i64 a1_0) := (blk_cell BK192.out 0).trans rfl; have hcz15_1 : w12.cell? ⟨gb192, 1, none⟩ = some (.int .i64 a1_1) := (blk_cell BK192.out 1).trans rfl; have hcz15_2 : w12.cell? ⟨gb192, 2, none⟩ = some (.int .i64 a1_2) := (blk_cell BK192.out 2).trans rfl; have hfz15_0 := blk_frozen BK192.out 0; have hfz15_1 := blk_frozen BK192.out 1; have hfz15_2 := blk_frozen BK192.out 2) | (go_at_call 13; (with_reducible refine (buddy_Orders.calls k _ _ l0 a1_0 t201 t202 _ ?side1 ?side2 A6.out).mono ?_); (case side1 => exact Kd.C_below HR0.out (by repeat (first | (with_reducible first | exact HB.out | apply below_alloc | apply pw_below_drewN | apply below_drew1 | refine below_set ?_ GE192.out | refine below_set ?_ GE200.out) | exact HB.out))); (case side2 => exact HC0.out); rintro e w16 ⟨v203, rfl, ho0, hb⟩; have n0_ := Aside0.mk (Kd.R_below (by (with_reducible repeat (first | apply Kd.R_alloc | apply Kd.R_drewN | apply Kd.R_drew)); exact (Kd.R_mono (Kd.R_far (p := ⟨gb200, 1, none⟩) (Kd.R_far (p := ⟨gb200, 0, none⟩) (Kd.R_types HO196.out BK200.out (by decide)) (fun _ hk => hk.2) (.int .i64 t197)) (fun _ hk => hk.2) (.int .i64 t198)) (fun _ h_ => h_.1))) hb); have n1_ := Aside0.mk (Kd.R_lower ho0 (below_size (by repeat (first | (with_reducible first | exact HB.out | apply below_alloc | apply pw_below_drewN | apply below_drew1 | refine below_set ?_ GE192.out | refine below_set ?_ GE200.out) | exact HB.out)))); have n2_ := Aside0.mk (blk_below (g := gb192) (o := .cells #[.int .i64 a1_0, .int .i64 a1_1, .int .i64 a1_2] 24 (0, 0)) (by (with_reducible repeat (first | refine blk_drewN ?_ _ | refine blk_drew ?_ | refine blk_alloc ?_ _)); refine blk_far ?_ NB192_200.out _; (with_reducible repeat (first | refine blk_drewN ?_ _ | refine blk_drew ?_ | refine blk_alloc ?_ _)); refine blk_far ?_ NB192_200.out _; (with_reducible repeat (first | refine blk_drewN ?_ _ | refine blk_drew ?_ | refine blk_alloc ?_ _)); exact BK192.out) hb); have n3_ := Aside0.mk (blk_below (g := gb200) (o := .cells #[.int .i64 t197, .int .i64 t198] 27 (0, 0)) (by (with_reducible repeat (first | refine blk_drewN ?_ _ | refine blk_drew ?_ | refine blk_alloc ?_ _)); refine blk_put (cs := #[.int .i64 t197, .int .i64 0]) ?_ 1 _ rfl; (with_reducible repeat (first | refine blk_drewN ?_ _ | refine blk_drew ?_ | refine blk_alloc ?_ _)); refine blk_put (cs := #[.int .i64 0, .int .i64 0]) ?_ 0 _ rfl; (with_reducible repeat (first | refine blk_drewN ?_ _ | refine blk_drew ?_ | refine blk_alloc ?_ _)); exact BK200.out) hb); have n4_ := Aside0.mk (below_step (by repeat (first | (with_reducible first | exact HB.out | apply below_alloc | apply pw_below_drewN | apply below_drew1 | refine below_set ?_ GE192.out | refine below_set ?_ GE200.out) | exact HB.out)) hb); clear HO196; clear BK192; clear BK200; clear HB; have HO196 := n0_; have HO204 := n1_; have BK192 := n2_; have BK200 := n3_; have HB := n4_; clear n0_ n1_ n2_ n3_ n4_; (try clear hb); (try clear hb2); (try clear hk); (try clear hi); (try clear ho0)))
    repeat (go_quiet (first | ((with_reducible refine gate_dst (N := 3) rfl ?_); refine box_event ?hg (N := 3) ?hd (cs := #[.int .i64 a1_0, .int .i64 a1_1, .int .i64 a1_2]) (t := 24) ?hr ?_; (case hd => rfl); (case hg => rfl); (case hr => go_simp; first | done | rfl); intro gb192 hg w8 hbox hb; have n0_ := Aside0.mk (below_step (by repeat (first | (with_reducible first | exact HB.out | apply below_alloc | apply pw_below_drewN | apply below_drew1) | exact HB.out)) hb); have n1_ := Aside0.mk (hbox); have n2_ := Aside0.mk ((by rw [hg]; exact (below_size (by repeat (first | (with_reducible first | exact HB.out | apply below_alloc | apply pw_below_drewN | apply below_drew1) | exact HB.out))) : w.heap.size ≤ gb192)); have n3_ := Aside0.mk ((by rw [hg]; exact (below_size (by repeat (first | (with_reducible first | exact HB.out | apply below_alloc | apply pw_below_drewN | apply below_drew1) | exact HB.out))) : w.heap.size ≤ gb192)); clear HB; have HB := n0_; have BK192 := n1_; have GW192 := n2_; have GE192 := n3_; clear n0_ n1_ n2_ n3_; clear hb hbox hg) | (go_at_call 10; (with_reducible refine (undercroftlaw08_alive.calls k  true _ A3.out rfl).mono ?_); rintro e w9 ⟨rfl, hb⟩; have n0_ := Aside0.mk (blk_below (g := gb192) (o := .cells #[.int .i64 a1_0, .int .i64 a1_1, .int .i64 a1_2] 24 (0, 0)) (by (with_reducible repeat (first | refine blk_drewN ?_ _ | refine blk_drew ?_ | refine blk_alloc ?_ _)); exact BK192.out) hb); have n1_ := Aside0.mk (below_step (by repeat (first | (with_reducible first | exact HB.out | apply below_alloc | apply pw_below_drewN | apply below_drew1 | refine below_set ?_ GE192.out) | exact HB.out)) hb); clear BK192; clear HB; have BK192 := n0_; have HB := n1_; clear n0_ n1_; (try clear hb); (try clear hb2); (try clear hk); (try clear hi); have hcz10_0 : w9.cell? ⟨gb192, 0, none⟩ = some (.int .i64 a1_0) := (blk_cell BK192.out 0).trans rfl; have hcz10_1 : w9.cell? ⟨gb192, 1, none⟩ = some (.int .i64 a1_1) := (blk_cell BK192.out 1).trans rfl; have hcz10_2 : w9.cell? ⟨gb192, 2, none⟩ = some (.int .i64 a1_2) := (blk_cell BK192.out 2).trans rfl; have hfz10_0 := blk_frozen BK192.out 0; have hfz10_1 := blk_frozen BK192.out 1; have hfz10_2 := blk_frozen BK192.out 2) | (go_at_call 11; (with_reducible refine (buddy_Take.calls k _ _ l0 a1_0 a1_1 a1_2 t194 t197 t198 t199 _ ?side1 ?side2 A5.out).mono ?_); (case side1 => repeat (first | exact (Kd.C_below HR0.out HB.out) | (with_reducible refine Kd.C_alloc ?_ _) | (with_reducible refine Kd.C_drewN ?_ _) | (with_reducible refine Kd.C_drew ?_))); (case side2 => exact HC0.out); rintro e w11 ⟨v195, rfl, ho0, hb⟩; have n0_ := Aside0.mk (Kd.R_lower ho0 (below_size (by repeat (first | (with_reducible first | exact HB.out | apply below_alloc | apply pw_below_drewN | apply below_drew1 | refine below_set ?_ GE192.out) | exact HB.out)))); have n1_ := Aside0.mk (blk_below (g := gb192) (o := .cells #[.int .i64 a1_0, .int .i64 a1_1, .int .i64 a1_2] 24 (0, 0)) (by (with_reducible repeat (first | refine blk_drewN ?_ _ | refine blk_drew ?_ | refine blk_alloc ?_ _)); exact BK192.out) hb); have n2_ := Aside0.mk (below_step (by repeat (first | (with_reducible first | exact HB.out | apply below_alloc | apply pw_below_drewN | apply below_drew1 | refine below_set ?_ GE192.out) | exact HB.out)) hb); clear BK192; clear HB; have HO196 := n0_; have BK192 := n1_; have HB := n2_; clear n0_ n1_ n2_; (try clear hb); (try clear hb2); (try clear hk); (try clear hi); (try clear ho0)) | ((with_reducible refine gate_dst (N := 6) rfl ?_); refine box_event ?hg (N := 6) ?hd (cs := #[.int .i64 0, .int .i64 0]) (t := 27) ?hr ?_; (case hd => rfl); (case hg => rfl); (case hr => go_simp; first | done | rfl); intro gb200 hg w12 hbox hb; have n0_ := Aside0.mk (Kd.R_below (by (with_reducible repeat (first | apply Kd.R_alloc | apply Kd.R_drewN | apply Kd.R_drew)); exact HO196.out) hb); have n1_ := Aside0.mk (blk_below (g := gb192) (o := .cells #[.int .i64 a1_0, .int .i64 a1_1, .int .i64 a1_2] 24 (0, 0)) (by (with_reducible repeat (first | refine blk_drewN ?_ _ | refine blk_drew ?_ | refine blk_alloc ?_ _)); exact BK192.out) hb); have n2_ := Aside0.mk (below_step (by repeat (first | (with_reducible first | exact HB.out | apply below_alloc | apply pw_below_drewN | apply below_drew1 | refine below_set ?_ GE192.out) | exact HB.out)) hb); have n3_ := Aside0.mk (hbox); have n4_ := Aside0.mk ((by rw [hg]; exact (below_size (by repeat (first | (with_reducible first | exact HB.out | apply below_alloc | apply pw_below_drewN | apply below_drew1 | refine below_set ?_ GE192.out) | exact HB.out))) : w.heap.size ≤ gb200)); have n5_ := Aside0.mk ((by rw [hg]; exact (below_size (by repeat (first | (with_reducible first | exact HB.out | apply below_alloc | apply pw_below_drewN | apply below_drew1 | refine below_set ?_ GE192.out) | exact HB.out))) : w.heap.size ≤ gb200)); have n6_ := Aside0.mk ((by rw [hg]; exact Nat.ne_of_lt (blk_lt (g := gb192) (o := .cells #[.int .i64 a1_0, .int .i64 a1_1, .int .i64 a1_2] 24 (0, 0)) (by (with_reducible repeat (first | refine blk_drewN ?_ _ | refine blk_drew ?_ | refine blk_alloc ?_ _)); exact BK192.out)) : gb192 ≠ gb200)); have n7_ := Aside0.mk ((by rw [hg]; exact Nat.ne_of_gt (blk_lt (g := gb192) (o := .cells #[.int .i64 a1_0, .int .i64 a1_1, .int .i64 a1_2] 24 (0, 0)) (by (with_reducible repeat (first | refine blk_drewN ?_ _ | refine blk_drew ?_ | refine blk_alloc ?_ _)); exact BK192.out)) : gb200 ≠ gb192)); clear HO196; clear BK192; clear HB; have HO196 := n0_; have BK192 := n1_; have HB := n2_; have BK200 := n3_; have GW200 := n4_; have GE200 := n5_; have NB192_200 := n6_; have NB200_192 := n7_; clear n0_ n1_ n2_ n3_ n4_ n5_ n6_ n7_; clear hb hbox hg; have hnb13 := NB200_192.out; have hnc13 := NB192_200.out; have hcz14_0 : w12.cell? ⟨gb200, 0, none⟩ = some (.int .i64 0) := (blk_cell BK200.out 0).trans rfl; have hcz14_1 : w12.cell? ⟨gb200, 1, none⟩ = some (.int .i64 0) := (blk_cell BK200.out 1).trans rfl; have hfz14_0 := blk_frozen BK200.out 0; have hfz14_1 := blk_frozen BK200.out 1; have hcz15_0 : w12.cell? ⟨gb192, 0, none⟩ = some (.int .i64 a1_0) := (blk_cell BK192.out 0).trans rfl; have hcz15_1 : w12.cell? ⟨gb192, 1, none⟩ = some (.int .i64 a1_1) := (blk_cell BK192.out 1).trans rfl; have hcz15_2 : w12.cell? ⟨gb192, 2, none⟩ = some (.int .i64 a1_2) := (blk_cell BK192.out 2).trans rfl; have hfz15_0 := blk_frozen BK192.out 0; have hfz15_1 := blk_frozen BK192.out 1; have hfz15_2 := blk_frozen BK192.out 2) | (go_at_call 13; (with_reducible refine (buddy_Orders.calls k _ _ l0 a1_0 t201 t202 _ ?side1 ?side2 A6.out).mono ?_); (case side1 => exact Kd.C_below HR0.out (by repeat (first | (with_reducible first | exact HB.out | apply below_alloc | apply pw_below_drewN | apply below_drew1 | refine below_set ?_ GE192.out | refine below_set ?_ GE200.out) | exact HB.out))); (case side2 => exact HC0.out); rintro e w16 ⟨v203, rfl, ho0, hb⟩; have n0_ := Aside0.mk (Kd.R_below (by (with_reducible repeat (first | apply Kd.R_alloc | apply Kd.R_drewN | apply Kd.R_drew)); exact (Kd.R_mono (Kd.R_far (p := ⟨gb200, 1, none⟩) (Kd.R_far (p := ⟨gb200, 0, none⟩) (Kd.R_types HO196.out BK200.out (by decide)) (fun _ hk => hk.2) (.int .i64 t197)) (fun _ hk => hk.2) (.int .i64 t198)) (fun _ h_ => h_.1))) hb); have n1_ := Aside0.mk (Kd.R_lower ho0 (below_size (by repeat (first | (with_reducible first | exact HB.out | apply below_alloc | apply pw_below_drewN | apply below_drew1 | refine below_set ?_ GE192.out | refine below_set ?_ GE200.out) | exact HB.out)))); have n2_ := Aside0.mk (blk_below (g := gb192) (o := .cells #[.int .i64 a1_0, .int .i64 a1_1, .int .i64 a1_2] 24 (0, 0)) (by (with_reducible repeat (first | refine blk_drewN ?_ _ | refine blk_drew ?_ | refine blk_alloc ?_ _)); refine blk_far ?_ NB192_200.out _; (with_reducible repeat (first | refine blk_drewN ?_ _ | refine blk_drew ?_ | refine blk_alloc ?_ _)); refine blk_far ?_ NB192_200.out _; (with_reducible repeat (first | refine blk_drewN ?_ _ | refine blk_drew ?_ | refine blk_alloc ?_ _)); exact BK192.out) hb); have n3_ := Aside0.mk (blk_below (g := gb200) (o := .cells #[.int .i64 t197, .int .i64 t198] 27 (0, 0)) (by (with_reducible repeat (first | refine blk_drewN ?_ _ | refine blk_drew ?_ | refine blk_alloc ?_ _)); refine blk_put (cs := #[.int .i64 t197, .int .i64 0]) ?_ 1 _ rfl; (with_reducible repeat (first | refine blk_drewN ?_ _ | refine blk_drew ?_ | refine blk_alloc ?_ _)); refine blk_put (cs := #[.int .i64 0, .int .i64 0]) ?_ 0 _ rfl; (with_reducible repeat (first | refine blk_drewN ?_ _ | refine blk_drew ?_ | refine blk_alloc ?_ _)); exact BK200.out) hb); have n4_ := Aside0.mk (below_step (by repeat (first | (with_reducible first | exact HB.out | apply below_alloc | apply pw_below_drewN | apply below_drew1 | refine below_set ?_ GE192.out | refine below_set ?_ GE200.out) | exact HB.out)) hb); clear HO196; clear BK192; clear BK200; clear HB; have HO196 := n0_; have HO204 := n1_; have BK192 := n2_; have BK200 := n3_; have HB := n4_; clear n0_ n1_ n2_ n3_ n4_; (try clear hb); (try clear hb2); (try clear hk); (try clear hi); (try clear ho0))); go_upto_region 5 with (first | ((with_reducible refine gate_dst (N := 3) rfl ?_); refine box_event ?hg (N := 3) ?hd (cs := #[.int .i64 a1_0, .int .i64 a1_1, .int .i64 a1_2]) (t := 24) ?hr ?_; (case hd => rfl); (case hg => rfl); (case hr => go_simp; first | done | rfl); intro gb192 hg w8 hbox hb; have n0_ := Aside0.mk (below_step (by repeat (first | (with_reducible first | exact HB.out | apply below_alloc | apply pw_below_drewN | apply below_drew1) | exact HB.out)) hb); have n1_ := Aside0.mk (hbox); have n2_ := Aside0.mk ((by rw [hg]; exact (below_size (by repeat (first | (with_reducible first | exact HB.out | apply below_alloc | apply pw_below_drewN | apply below_drew1) | exact HB.out))) : w.heap.size ≤ gb192)); have n3_ := Aside0.mk ((by rw [hg]; exact (below_size (by repeat (first | (with_reducible first | exact HB.out | apply below_alloc | apply pw_below_drewN | apply below_drew1) | exact HB.out))) : w.heap.size ≤ gb192)); clear HB; have HB := n0_; have BK192 := n1_; have GW192 := n2_; have GE192 := n3_; clear n0_ n1_ n2_ n3_; clear hb hbox hg) | (go_at_call 10; (with_reducible refine (undercroftlaw08_alive.calls k  true _ A3.out rfl).mono ?_); rintro e w9 ⟨rfl, hb⟩; have n0_ := Aside0.mk (blk_below (g := gb192) (o := .cells #[.int .i64 a1_0, .int .i64 a1_1, .int .i64 a1_2] 24 (0, 0)) (by (with_reducible repeat (first | refine blk_drewN ?_ _ | refine blk_drew ?_ | refine blk_alloc ?_ _)); exact BK192.out) hb); have n1_ := Aside0.mk (below_step (by repeat (first | (with_reducible first | exact HB.out | apply below_alloc | apply pw_below_drewN | apply below_drew1 | refine below_set ?_ GE192.out) | exact HB.out)) hb); clear BK192; clear HB; have BK192 := n0_; have HB := n1_; clear n0_ n1_; (try clear hb); (try clear hb2); (try clear hk); (try clear hi); have hcz10_0 : w9.cell? ⟨gb192, 0, none⟩ = some (.int .i64 a1_0) := (blk_cell BK192.out 0).trans rfl; have hcz10_1 : w9.cell? ⟨gb192, 1, none⟩ = some (.int .i64 a1_1) := (blk_cell BK192.out 1).trans rfl; have hcz10_2 : w9.cell? ⟨gb192, 2, none⟩ = some (.int .i64 a1_2) := (blk_cell BK192.out 2).trans rfl; have hfz10_0 := blk_frozen BK192.out 0; have hfz10_1 := blk_frozen BK192.out 1; have hfz10_2 := blk_frozen BK192.out 2) | (go_at_call 11; (with_reducible refine (buddy_Take.calls k _ _ l0 a1_0 a1_1 a1_2 t194 t197 t198 t199 _ ?side1 ?side2 A5.out).mono ?_); (case side1 => repeat (first | exact (Kd.C_below HR0.out HB.out) | (with_reducible refine Kd.C_alloc ?_ _) | (with_reducible refine Kd.C_drewN ?_ _) | (with_reducible refine Kd.C_drew ?_))); (case side2 => exact HC0.out); rintro e w11 ⟨v195, rfl, ho0, hb⟩; have n0_ := Aside0.mk (Kd.R_lower ho0 (below_size (by repeat (first | (with_reducible first | exact HB.out | apply below_alloc | apply pw_below_drewN | apply below_drew1 | refine below_set ?_ GE192.out) | exact HB.out)))); have n1_ := Aside0.mk (blk_below (g := gb192) (o := .cells #[.int .i64 a1_0, .int .i64 a1_1, .int .i64 a1_2] 24 (0, 0)) (by (with_reducible repeat (first | refine blk_drewN ?_ _ | refine blk_drew ?_ | refine blk_alloc ?_ _)); exact BK192.out) hb); have n2_ := Aside0.mk (below_step (by repeat (first | (with_reducible first | exact HB.out | apply below_alloc | apply pw_below_drewN | apply below_drew1 | refine below_set ?_ GE192.out) | exact HB.out)) hb); clear BK192; clear HB; have HO196 := n0_; have BK192 := n1_; have HB := n2_; clear n0_ n1_ n2_; (try clear hb); (try clear hb2); (try clear hk); (try clear hi); (try clear ho0)) | ((with_reducible refine gate_dst (N := 6) rfl ?_); refine box_event ?hg (N := 6) ?hd (cs := #[.int .i64 0, .int .i64 0]) (t := 27) ?hr ?_; (case hd => rfl); (case hg => rfl); (case hr => go_simp; first | done | rfl); intro gb200 hg w12 hbox hb; have n0_ := Aside0.mk (Kd.R_below (by (with_reducible repeat (first | apply Kd.R_alloc | apply Kd.R_drewN | apply Kd.R_drew)); exact HO196.out) hb); have n1_ := Aside0.mk (blk_below (g := gb192) (o := .cells #[.int .i64 a1_0, .int .i64 a1_1, .int .i64 a1_2] 24 (0, 0)) (by (with_reducible repeat (first | refine blk_drewN ?_ _ | refine blk_drew ?_ | refine blk_alloc ?_ _)); exact BK192.out) hb); have n2_ := Aside0.mk (below_step (by repeat (first | (with_reducible first | exact HB.out | apply below_alloc | apply pw_below_drewN | apply below_drew1 | refine below_set ?_ GE192.out) | exact HB.out)) hb); have n3_ := Aside0.mk (hbox); have n4_ := Aside0.mk ((by rw [hg]; exact (below_size (by repeat (first | (with_reducible first | exact HB.out | apply below_alloc | apply pw_below_drewN | apply below_drew1 | refine below_set ?_ GE192.out) | exact HB.out))) : w.heap.size ≤ gb200)); have n5_ := Aside0.mk ((by rw [hg]; exact (below_size (by repeat (first | (with_reducible first | exact HB.out | apply below_alloc | apply pw_below_drewN | apply below_drew1 | refine below_set ?_ GE192.out) | exact HB.out))) : w.heap.size ≤ gb200)); have n6_ := Aside0.mk ((by rw [hg]; exact Nat.ne_of_lt (blk_lt (g := gb192) (o := .cells #[.int .i64 a1_0, .int .i64 a1_1, .int .i64 a1_2] 24 (0, 0)) (by (with_reducible repeat (first | refine blk_drewN ?_ _ | refine blk_drew ?_ | refine blk_alloc ?_ _)); exact BK192.out)) : gb192 ≠ gb200)); have n7_ := Aside0.mk ((by rw [hg]; exact Nat.ne_of_gt (blk_lt (g := gb192) (o := .cells #[.int .i64 a1_0, .int .i64 a1_1, .int .i64 a1_2] 24 (0, 0)) (by (with_reducible repeat (first | refine blk_drewN ?_ _ | refine blk_drew ?_ | refine blk_alloc ?_ _)); exact BK192.out)) : gb200 ≠ gb192)); clear HO196; clear BK192; clear HB; have HO196 := n0_; have BK192 := n1_; have HB := n2_; have BK200 := n3_; have GW200 := n4_; have GE200 := n5_; have NB192_200 := n6_; have NB200_192 := n7_; clear n0_ n1_ n2_ n3_ n4_ n5_ n6_ n7_; clear hb hbox hg; have hnb13 := NB200_192.out; have hnc13 := NB192_200.out; have hcz14_0 : w12.cell? ⟨gb200, 0, none⟩ = some (.int .i64 0) := (blk_cell BK200.out 0).trans rfl; have hcz14_1 : w12.cell? ⟨gb200, 1, none⟩ = some (.int .i64 0) := (blk_cell BK200.out 1).trans rfl; have hfz14_0 := blk_frozen BK200.out 0; have hfz14_1 := blk_frozen BK200.out 1; have hcz15_0 : w12.cell? ⟨gb192, 0, none⟩ = some (.int .i64 a1_0) := (blk_cell BK192.out 0).trans rfl; have hcz15_1 : w12.cell? ⟨gb192, 1, none⟩ = some (.int .i64 a1_1) := (blk_cell BK192.out 1).trans rfl; have hcz15_2 : w12.cell? ⟨gb192, 2, none⟩ = some (.int .i64 a1_2) := (blk_cell BK192.out 2).trans rfl; have hfz15_0 := blk_frozen BK192.out 0; have hfz15_1 := blk_frozen BK192.out 1; have hfz15_2 := blk_frozen BK192.out 2) | (go_at_call 13; (with_reducible refine (buddy_Orders.calls k _ _ l0 a1_0 t201 t202 _ ?side1 ?side2 A6.out).mono ?_); (case side1 => exact Kd.C_below HR0.out (by repeat (first | (with_reducible first | exact HB.out | apply below_alloc | apply pw_below_drewN | apply below_drew1 | refine below_set ?_ GE192.out | refine below_set ?_ GE200.out) | exact HB.out))); (case side2 => exact HC0.out); rintro e w16 ⟨v203, rfl, ho0, hb⟩; have n0_ := Aside0.mk (Kd.R_below (by (with_reducible repeat (first | apply Kd.R_alloc | apply Kd.R_drewN | apply Kd.R_drew)); exact (Kd.R_mono (Kd.R_far (p := ⟨gb200, 1, none⟩) (Kd.R_far (p := ⟨gb200, 0, none⟩) (Kd.R_types HO196.out BK200.out (by decide)) (fun _ hk => hk.2) (.int .i64 t197)) (fun _ hk => hk.2) (.int .i64 t198)) (fun _ h_ => h_.1))) hb); have n1_ := Aside0.mk (Kd.R_lower ho0 (below_size (by repeat (first | (with_reducible first | exact HB.out | apply below_alloc | apply pw_below_drewN | apply below_drew1 | refine below_set ?_ GE192.out | refine below_set ?_ GE200.out) | exact HB.out)))); have n2_ := Aside0.mk (blk_below (g := gb192) (o := .cells #[.int .i64 a1_0, .int .i64 a1_1, .int .i64 a1_2] 24 (0, 0)) (by (with_reducible repeat (first | refine blk_drewN ?_ _ | refine blk_drew ?_ | refine blk_alloc ?_ _)); refine blk_far ?_ NB192_200.out _; (with_reducible repeat (first | refine blk_drewN ?_ _ | refine blk_drew ?_ | refine blk_alloc ?_ _)); refine blk_far ?_ NB192_200.out _; (with_reducible repeat (first | refine blk_drewN ?_ _ | refine blk_drew ?_ | refine blk_alloc ?_ _)); exact BK192.out) hb); have n3_ := Aside0.mk (blk_below (g := gb200) (o := .cells #[.int .i64 t197, .int .i64 t198] 27 (0, 0)) (by (with_reducible repeat (first | refine blk_drewN ?_ _ | refine blk_drew ?_ | refine blk_alloc ?_ _)); refine blk_put (cs := #[.int .i64 t197, .int .i64 0]) ?_ 1 _ rfl; (with_reducible repeat (first | refine blk_drewN ?_ _ | refine blk_drew ?_ | refine blk_alloc ?_ _)); refine blk_put (cs := #[.int .i64 0, .int .i64 0]) ?_ 0 _ rfl; (with_reducible repeat (first | refine blk_drewN ?_ _ | refine blk_drew ?_ | refine blk_alloc ?_ _)); exact BK200.out) hb); have n4_ := Aside0.mk (below_step (by repeat (first | (with_reducible first | exact HB.out | apply below_alloc | apply pw_below_drewN | apply below_drew1 | refine below_set ?_ GE192.out | refine below_set ?_ GE200.out) | exact HB.out)) hb); clear HO196; clear BK192; clear BK200; clear HB; have HO196 := n0_; have HO204 := n1_; have BK192 := n2_; have BK200 := n3_; have HB := n4_; clear n0_ n1_ n2_ n3_ n4_; (try clear hb); (try clear hb2); (try clear hk); (try clear hi); (try clear ho0))))
    (try simp only [Act.put, List.setIfInBounds_toArray, List.set_cons_zero, List.set_cons_succ])
    go_cut [40] (fun v40 wc => ∃ (kq : Nat) (x40_6 : Bool), v40 = .bool x40_6 ∧ Aside0 (undercroftlaw08_BuddyBest.j0 kq t201 x40_6 a1_0 a1_1 a1_2 t197 t198 = some r) ∧ Aside0 (kq ≤ k) ∧ Aside0 (Kd.R (Kd.int .i64) 3 wc w.heap.size (fun _ => True) v203 t201) ∧ Aside0 (wc.heap[gb192]? = some (.cells #[.int .i64 a1_0, .int .i64 a1_1, .int .i64 a1_2] 24 (0, 0))) ∧ Aside0 (wc.heap[gb200]? = some (.cells #[.int .i64 t197, .int .i64 t198] 27 (0, 0))) ∧ Aside0 (Below w.heap.size w wc))
    case first =>
      have H := HC7.out
      clear HC7
      by_cases c17 : t199 = 0
      rotate_left
      · rw [if_neg c17] at H
        have c17b0 : (t199 == 0) = false := beq_eq_false_iff_ne.mpr c17
        have c17b1 : (t199 != 0) = true := bne_iff_ne.mpr c17
        (first | rw [c17b0] | (simp only [i64_w, i32_w]; rw [c17b0]) | skip)
        have H' := Aside0.mk H
        clear H
        go_wp2
        repeat (go_quiet (fail); try go_wp2)
        go_meet
        case rel => exact ⟨_, (true), (by first | rfl | (simp; done) | (simp [*]; done)), H', ⟨by first | omega | exact Nat.le_refl _⟩, ⟨by (with_reducible repeat (first | apply Kd.R_alloc | apply Kd.R_drewN | apply Kd.R_drew)); exact HO204.out⟩, ⟨by (with_reducible repeat (first | refine blk_drewN ?_ _ | refine blk_drew ?_ | refine blk_alloc ?_ _)); exact BK192.out⟩, ⟨by (with_reducible repeat (first | refine blk_drewN ?_ _ | refine blk_drew ?_ | refine blk_alloc ?_ _)); exact BK200.out⟩, ⟨by repeat (first | (with_reducible first | exact HB.out | apply below_alloc | apply pw_below_drewN | apply below_drew1 | refine below_set ?_ GE192.out | refine below_set ?_ GE200.out) | exact HB.out)⟩⟩
      rw [if_pos c17] at H
      have c17b0 : (t199 == 0) = true := beq_iff_eq.mpr c17
      have c17b1 : (t199 != 0) = false := bne_eq_false_iff_eq.mpr c17
      clear c17
      (first | rw [c17b0] | (simp only [i64_w, i32_w]; rw [c17b0]) | skip)
      have H' := Aside0.mk H
      clear H
      go_wp2
      repeat (go_quiet (fail); try go_wp2)
      go_meet
      case rel => exact ⟨_, ((t202 != 0)), (by first | rfl | (simp; done) | (simp [*]; done)), H', ⟨by first | omega | exact Nat.le_refl _⟩, ⟨by (with_reducible repeat (first | apply Kd.R_alloc | apply Kd.R_drewN | apply Kd.R_drew)); exact HO204.out⟩, ⟨by (with_reducible repeat (first | refine blk_drewN ?_ _ | refine blk_drew ?_ | refine blk_alloc ?_ _)); exact BK192.out⟩, ⟨by (with_reducible repeat (first | refine blk_drewN ?_ _ | refine blk_drew ?_ | refine blk_alloc ?_ _)); exact BK200.out⟩, ⟨by repeat (first | (with_reducible first | exact HB.out | apply below_alloc | apply pw_below_drewN | apply below_drew1 | refine below_set ?_ GE192.out | refine below_set ?_ GE200.out) | exact HB.out)⟩⟩
    case rest =>
      clear HC7
      try clear c1
      try clear p2
      try clear c4
      try clear c13
      try clear c17
      try clear c17b0
      try clear c17b1
      try clear hcz10_0
      try clear hcz10_1
      try clear hcz10_2
      try clear hcz14_0
      try clear hcz14_1
      try clear hcz15_0
      try clear hcz15_1
      try clear hcz15_2
      try clear hfz10_0
      try clear hfz10_1
      try clear hfz10_2
      try clear hfz14_0
      try clear hfz14_1
      try clear hfz15_0
      try clear hfz15_1
      try clear hfz15_2
      obtain ⟨kq, x40_6, rfl, HA, HJ6, HO_8, BK192, BK200, HB⟩ := hcut
      cases kq with
      | zero => exact absurd HA.out (by simp [undercroftlaw08_BuddyBest.j0])
      | succ kj6 =>
        have H := HA.out
        clear HA
        simp only [undercroftlaw08_BuddyBest.j0] at H
        by_cases c18 : x40_6 = true
        · subst c18
          have H1 : (some true) = some r := by rw [if_pos rfl] at H; exact H
          clear H
          have H := H1
          clear H1
          obtain rfl := Option.some.inj H
          go_wp2
          repeat (go_quiet (fail); try go_wp2)
          go_ret
          exact ⟨by first | rfl | (simp [errW_none, errW_some] <;> rfl) | (simp [*, errW_none, errW_some] <;> rfl), by repeat (first | (with_reducible first | exact HB.out | apply below_alloc | apply pw_below_drewN | apply below_drew1 | refine below_set ?_ GE192.out | refine below_set ?_ GE200.out) | exact HB.out)⟩
        replace c18 := Bool.eq_false_iff.mpr c18
        subst c18
        have H1 : (undercroftlaw08_BuddyBest.l0 kj6 t201 0 a1_0 a1_1 a1_2 t197 t198) = some r := by rw [if_neg (show ¬ (false = true) by decide)] at H; exact H
        clear H
        have H := H1
        clear H1
        have H' := Aside0.mk H
        clear H
        go_wp2
        repeat (go_quiet (fail); try go_wp2)
        go_loopg [10] kj6 (fun kq v10 w' => ∃ (x10_2 : Int), v10 = .int .i64 x10_2 ∧ Aside0 (undercroftlaw08_BuddyBest.l0 kq t201 x10_2 a1_0 a1_1 a1_2 t197 t198 = some r) ∧ Aside0 (kq ≤ kj6) ∧ Aside0 (Kd.R (Kd.int .i64) 3 w' w.heap.size (fun _ => True) v203 t201) ∧ Aside0 (w'.heap[gb192]? = some (.cells #[.int .i64 a1_0, .int .i64 a1_1, .int .i64 a1_2] 24 (0, 0))) ∧ Aside0 (w'.heap[gb200]? = some (.cells #[.int .i64 t197, .int .i64 t198] 27 (0, 0))) ∧ Aside0 (Below w.heap.size w w'))
        case atStart => exact ⟨(0), (by first | rfl | (simp; done) | (simp [*]; done)), H', ⟨Nat.le_refl _⟩, ⟨by (with_reducible repeat (first | apply Kd.R_alloc | apply Kd.R_drewN | apply Kd.R_drew)); exact HO_8.out⟩, ⟨by (with_reducible repeat (first | refine blk_drewN ?_ _ | refine blk_drew ?_ | refine blk_alloc ?_ _)); exact BK192.out⟩, ⟨by (with_reducible repeat (first | refine blk_drewN ?_ _ | refine blk_drew ?_ | refine blk_alloc ?_ _)); exact BK200.out⟩, ⟨by repeat (first | (with_reducible first | exact HB.out | apply below_alloc | apply pw_below_drewN | apply below_drew1 | refine below_set ?_ GE192.out | refine below_set ?_ GE200.out) | exact HB.out)⟩⟩
        case round =>
          clear H'
          try clear c1
          try clear p2
          try clear c4
          try clear c13
          try clear c17
          try clear c17b0
          try clear c17b1
          try clear c18
          try clear hcz10_0
          try clear hcz10_1
          try clear hcz10_2
          try clear hcz14_0
          try clear hcz14_1
          try clear hcz15_0
          try clear hcz15_1
          try clear hcz15_2
          try clear hfz10_0
          try clear hfz10_1
          try clear hfz10_2
          try clear hfz14_0
          try clear hfz14_1
          try clear hfz15_0
          try clear hfz15_1
          try clear hfz15_2
          try clear p2
          obtain ⟨x10_2, rfl, HA, HK2, HO_8, BK192, BK200, HB⟩ := hrel
          cases gk with
          | zero => exact absurd HA.out (by simp [undercroftlaw08_BuddyBest.l0])
          | succ k2 =>
            have H := HA.out
            clear HA
            simp only [undercroftlaw08_BuddyBest.l0] at H
            by_cases c19 : 0 ≤ x10_2
            rotate_left
            · rw [if_neg c19] at H
              exact absurd H (by simp)
            rw [if_pos c19] at H
            have c19b0 := eq_true c19
            have c19b1 : decide (0 ≤ x10_2) = true := decide_eq_true c19
            clear c19
            obtain ⟨ji20, hji20⟩ : ∃ j_ : Int, (shl .i64 1 x10_2) = j_ := ⟨_, rfl⟩
            replace H : (if (ji20) < a1_1 then (undercroftlaw08_BuddyBest.l0 k2 t201 (wrap64 (x10_2 + 1)) a1_0 a1_1 a1_2 t197 t198) else (undercroftlaw08_BuddyBest.l1 k2 t201 x10_2 (-1) 0 a1_0 a1_1 a1_2 t197 t198)) = some r := by first | (rw [hji20] at H; exact H) | (simp only [hji20] at H ⊢; exact H)
            have hji20_ : (IntKind.i64.wrap (1 * 2 ^ min x10_2.toNat 64)) = ji20 := hji20
            have hji20z : x10_2 ≤ 64 → (IntKind.i64.wrap (1 * 2 ^ x10_2.toNat)) = ji20 := shl_small hji20
            have hji20u : (IntKind.i64.wrap (2 ^ min x10_2.toNat 64)) = ji20 := by have h_ := hji20_; rw [Int.one_mul] at h_; exact h_
            have hji20v : x10_2 ≤ 64 → (IntKind.i64.wrap (2 ^ x10_2.toNat)) = ji20 := fun hle_ => by have h_ := hji20z hle_; rw [Int.one_mul] at h_; exact h_
            have hji20y : (wrap64 (1 * 2 ^ min x10_2.toNat 64)) = ji20 := (i64_w _).symm.trans hji20_
            have hji20x : x10_2 ≤ 64 → (wrap64 (1 * 2 ^ x10_2.toNat)) = ji20 := fun h_ => (i64_w _).symm.trans (hji20z h_)
            by_cases c21 : (ji20) < a1_1
            · rw [if_pos c21] at H
              have c21b0 : decide ((ji20) < a1_1) = true := decide_eq_true c21
              clear c21
              have H' := Aside0.mk H
              clear H
              have hnb22 := NB192_200.out
              have hnc22 := NB200_192.out
              have hcz23_0 : wr.cell? ⟨gb192, 0, none⟩ = some (.int .i64 a1_0) := (blk_cell BK192.out 0).trans rfl
              have hcz23_1 : wr.cell? ⟨gb192, 1, none⟩ = some (.int .i64 a1_1) := (blk_cell BK192.out 1).trans rfl
              have hcz23_2 : wr.cell? ⟨gb192, 2, none⟩ = some (.int .i64 a1_2) := (blk_cell BK192.out 2).trans rfl
              have hfz23_0 := blk_frozen BK192.out 0
              have hfz23_1 := blk_frozen BK192.out 1
              have hfz23_2 := blk_frozen BK192.out 2
              go_wp2
              repeat (go_quiet (fail); try go_wp2)
              go_roundg k2
              case measure => have := HJ6.out; have := HK2.out; omega
              case rel => exact ⟨(wrap64 (x10_2 + 1)), (by first | rfl | (simp; done) | (simp [*]; done)), H', ⟨by have := HJ6.out; have := HK2.out; omega⟩, ⟨by (with_reducible repeat (first | apply Kd.R_alloc | apply Kd.R_drewN | apply Kd.R_drew)); exact HO_8.out⟩, ⟨by (with_reducible repeat (first | refine blk_drewN ?_ _ | refine blk_drew ?_ | refine blk_alloc ?_ _)); exact BK192.out⟩, ⟨by (with_reducible repeat (first | refine blk_drewN ?_ _ | refine blk_drew ?_ | refine blk_alloc ?_ _)); exact BK200.out⟩, ⟨by repeat (first | (with_reducible first | exact HB.out | apply below_alloc | apply pw_below_drewN | apply below_drew1 | refine below_set ?_ GE192.out | refine below_set ?_ GE200.out) | exact HB.out)⟩⟩
            rw [if_neg c21] at H
            have c21b0 : decide ((ji20) < a1_1) = false := decide_eq_false c21
            clear c21
            have H' := Aside0.mk H
            clear H
            have hnb24 := NB192_200.out
            have hnc24 := NB200_192.out
            have hcz25_0 : wr.cell? ⟨gb192, 0, none⟩ = some (.int .i64 a1_0) := (blk_cell BK192.out 0).trans rfl
            have hcz25_1 : wr.cell? ⟨gb192, 1, none⟩ = some (.int .i64 a1_1) := (blk_cell BK192.out 1).trans rfl
            have hcz25_2 : wr.cell? ⟨gb192, 2, none⟩ = some (.int .i64 a1_2) := (blk_cell BK192.out 2).trans rfl
            have hfz25_0 := blk_frozen BK192.out 0
            have hfz25_1 := blk_frozen BK192.out 1
            have hfz25_2 := blk_frozen BK192.out 2
            go_wp2
            repeat (go_quiet (fail); try go_wp2)
            go_loopg [11, 12] k2 (fun kq v11 v12 w' => ∃ (x11_3 : Int) (x12_3 : Int), v11 = .int .i64 x11_3 ∧ v12 = .int .i64 x12_3 ∧ Aside0 (undercroftlaw08_BuddyBest.l1 kq t201 x10_2 x11_3 x12_3 a1_0 a1_1 a1_2 t197 t198 = some r) ∧ Aside0 (kq ≤ k2) ∧ Aside0 (Kd.R (Kd.int .i64) 3 w' w.heap.size (fun _ => True) v203 t201) ∧ Aside0 (w'.heap[gb192]? = some (.cells #[.int .i64 a1_0, .int .i64 a1_1, .int .i64 a1_2] 24 (0, 0))) ∧ Aside0 (w'.heap[gb200]? = some (.cells #[.int .i64 t197, .int .i64 t198] 27 (0, 0))) ∧ Aside0 (Below w.heap.size w w'))
            case atStart => exact ⟨((-1)), (0), (by first | rfl | (simp; done) | (simp [*]; done)), (by first | rfl | (simp; done) | (simp [*]; done)), H', ⟨Nat.le_refl _⟩, ⟨by (with_reducible repeat (first | apply Kd.R_alloc | apply Kd.R_drewN | apply Kd.R_drew)); exact HO_8.out⟩, ⟨by (with_reducible repeat (first | refine blk_drewN ?_ _ | refine blk_drew ?_ | refine blk_alloc ?_ _)); exact BK192.out⟩, ⟨by (with_reducible repeat (first | refine blk_drewN ?_ _ | refine blk_drew ?_ | refine blk_alloc ?_ _)); exact BK200.out⟩, ⟨by repeat (first | (with_reducible first | exact HB.out | apply below_alloc | apply pw_below_drewN | apply below_drew1 | refine below_set ?_ GE192.out | refine below_set ?_ GE200.out) | exact HB.out)⟩⟩
            case round =>
              clear H'
              try clear c1
              try clear c2
              try clear p2
              try clear c4
              try clear p6
              try clear c13
              try clear c17
              try clear c17b0
              try clear c17b1
              try clear c18
              try clear c19
              try clear c19b0
              try clear c19b1
              try clear c21
              try clear c21b0
              try clear c22
              try clear c24
              try clear hcz10_0
              try clear hcz10_1
              try clear hcz10_2
              try clear hcz14_0
              try clear hcz14_1
              try clear hcz15_0
              try clear hcz15_1
              try clear hcz15_2
              try clear hcz23_0
              try clear hcz23_1
              try clear hcz23_2
              try clear hcz25_0
              try clear hcz25_1
              try clear hcz25_2
              try clear hfz10_0
              try clear hfz10_1
              try clear hfz10_2
              try clear hfz14_0
              try clear hfz14_1
              try clear hfz15_0
              try clear hfz15_1
              try clear hfz15_2
              try clear hfz23_0
              try clear hfz23_1
              try clear hfz23_2
              try clear hfz25_0
              try clear hfz25_1
              try clear hfz25_2
              try clear p2
              obtain ⟨x11_3, x12_3, rfl, rfl, HA, HK3, HO_8, BK192, BK200, HB⟩ := hrel
              cases gk with
              | zero => exact absurd HA.out (by simp [undercroftlaw08_BuddyBest.l1])
              | succ k3 =>
                have H := HA.out
                clear HA
                simp only [undercroftlaw08_BuddyBest.l1] at H
                by_cases c26 : x12_3 < (t201.length : Int)
                · rw [if_pos c26] at H
                  have c26b0 : decide (x12_3 < (t201.length : Int)) = true := decide_eq_true c26
                  clear c26
                  by_cases c27 : 0 ≤ x12_3
                  rotate_left
                  · rw [if_neg c27] at H
                    exact absurd H (by simp)
                  rw [if_pos c27] at H
                  have c27b0 : decide (0 ≤ x12_3) = true := decide_eq_true c27
                  clear c27
                  by_cases c28 : (rd t201 x12_3) > 0
                  · rw [if_pos c28] at H
                    have c28b0 : decide (0 < (rd t201 x12_3)) = true := decide_eq_true c28
                    clear c28
                    have H' := Aside0.mk H
                    clear H
                    obtain ⟨Ao29, co29, eo29⟩ := Kd.R_slice HO_8.out
                    subst eo29
                    have p205 : 0 ≤ (x12_3 : Int) := of_decide_eq_true (by first | (with_reducible assumption) | assumption)
                    have q205 : x12_3 < (t201.length : Int) := of_decide_eq_true (by first | (with_reducible assumption) | assumption)
                    obtain ⟨ad205, e205, hx205_0⟩ := Kd.at_int (Kd.R_reads' HO_8.out).2.2 x12_3 p205 q205
                    cases e205
                    replace p205 := eq_true p205
                    replace q205 := eq_true q205
                    go_wp2
                    repeat (go_quiet (fail); try go_wp2)
                    go_roundg k3
                    case measure => have := HJ6.out; have := HK2.out; have := HK3.out; omega
                    case rel => exact ⟨(x12_3), (wrap64 (x12_3 + 1)), (by first | rfl | (simp; done) | (simp [*]; done)), (by first | rfl | (simp; done) | (simp [*]; done)), H', ⟨by have := HJ6.out; have := HK2.out; have := HK3.out; omega⟩, ⟨by (with_reducible repeat (first | apply Kd.R_alloc | apply Kd.R_drewN | apply Kd.R_drew)); exact HO_8.out⟩, ⟨by (with_reducible repeat (first | refine blk_drewN ?_ _ | refine blk_drew ?_ | refine blk_alloc ?_ _)); exact BK192.out⟩, ⟨by (with_reducible repeat (first | refine blk_drewN ?_ _ | refine blk_drew ?_ | refine blk_alloc ?_ _)); exact BK200.out⟩, ⟨by repeat (first | (with_reducible first | exact HB.out | apply below_alloc | apply pw_below_drewN | apply below_drew1 | refine below_set ?_ GE192.out | refine below_set ?_ GE200.out) | exact HB.out)⟩⟩
                  rw [if_neg c28] at H
                  have c28b0 : decide (0 < (rd t201 x12_3)) = false := decide_eq_false c28
                  clear c28
                  have H' := Aside0.mk H
                  clear H
                  obtain ⟨Ao30, co30, eo30⟩ := Kd.R_slice HO_8.out
                  subst eo30
                  have p205 : 0 ≤ (x12_3 : Int) := of_decide_eq_true (by first | (with_reducible assumption) | assumption)
                  have q205 : x12_3 < (t201.length : Int) := of_decide_eq_true (by first | (with_reducible assumption) | assumption)
                  obtain ⟨ad205, e205, hx205_0⟩ := Kd.at_int (Kd.R_reads' HO_8.out).2.2 x12_3 p205 q205
                  cases e205
                  replace p205 := eq_true p205
                  replace q205 := eq_true q205
                  go_wp2
                  repeat (go_quiet (fail); try go_wp2)
                  go_roundg k3
                  case measure => have := HJ6.out; have := HK2.out; have := HK3.out; omega
                  case rel => exact ⟨(x11_3), (wrap64 (x12_3 + 1)), (by first | rfl | (simp; done) | (simp [*]; done)), (by first | rfl | (simp; done) | (simp [*]; done)), H', ⟨by have := HJ6.out; have := HK2.out; have := HK3.out; omega⟩, ⟨by (with_reducible repeat (first | apply Kd.R_alloc | apply Kd.R_drewN | apply Kd.R_drew)); exact HO_8.out⟩, ⟨by (with_reducible repeat (first | refine blk_drewN ?_ _ | refine blk_drew ?_ | refine blk_alloc ?_ _)); exact BK192.out⟩, ⟨by (with_reducible repeat (first | refine blk_drewN ?_ _ | refine blk_drew ?_ | refine blk_alloc ?_ _)); exact BK200.out⟩, ⟨by repeat (first | (with_reducible first | exact HB.out | apply below_alloc | apply pw_below_drewN | apply below_drew1 | refine below_set ?_ GE192.out | refine below_set ?_ GE200.out) | exact HB.out)⟩⟩
                rw [if_neg c26] at H
                have c26b0 : decide (x12_3 < (t201.length : Int)) = false := decide_eq_false c26
                clear c26
                obtain ⟨ji31, hji31⟩ : ∃ j_ : Int, (mn x10_2 x11_3) = j_ := ⟨_, rfl⟩
                replace H : (if 0 ≤ (ji31) then (if t198 = (mn a1_1 (shl .i64 1 (ji31))) then (if (shl .i64 1 (ji31)) = 0 then (none) else (some ((Int.tmod t197 (shl .i64 1 (ji31))) == 0))) else (some false)) else (none)) = some r := by first | (rw [hji31] at H; exact H) | (simp only [hji31] at H ⊢; exact H)
                have hji31_ : (if x11_3 < x10_2 then x11_3 else x10_2) = ji31 := hji31
                by_cases c32 : 0 ≤ (ji31)
                rotate_left
                · rw [if_neg c32] at H
                  exact absurd H (by simp)
                rw [if_pos c32] at H
                have c32b0 := eq_true c32
                have c32b1 : decide (0 ≤ (ji31)) = true := decide_eq_true c32
                clear c32
                obtain ⟨ji33, hji33⟩ : ∃ j_ : Int, (shl .i64 1 (ji31)) = j_ := ⟨_, rfl⟩
                replace H : (if t198 = (mn a1_1 (ji33)) then (if (ji33) = 0 then (none) else (some ((Int.tmod t197 (ji33)) == 0))) else (some false)) = some r := by first | (rw [hji33] at H; exact H) | (simp only [hji33] at H ⊢; exact H)
                have hji33_ : (IntKind.i64.wrap (1 * 2 ^ min (ji31).toNat 64)) = ji33 := hji33
                have hji33z : (ji31) ≤ 64 → (IntKind.i64.wrap (1 * 2 ^ (ji31).toNat)) = ji33 := shl_small hji33
                have hji33u : (IntKind.i64.wrap (2 ^ min (ji31).toNat 64)) = ji33 := by have h_ := hji33_; rw [Int.one_mul] at h_; exact h_
                have hji33v : (ji31) ≤ 64 → (IntKind.i64.wrap (2 ^ (ji31).toNat)) = ji33 := fun hle_ => by have h_ := hji33z hle_; rw [Int.one_mul] at h_; exact h_
                have hji33y : (wrap64 (1 * 2 ^ min (ji31).toNat 64)) = ji33 := (i64_w _).symm.trans hji33_
                have hji33x : (ji31) ≤ 64 → (wrap64 (1 * 2 ^ (ji31).toNat)) = ji33 := fun h_ => (i64_w _).symm.trans (hji33z h_)
                obtain ⟨ji34, hji34⟩ : ∃ j_ : Int, (mn a1_1 (ji33)) = j_ := ⟨_, rfl⟩
                replace H : (if t198 = (ji34) then (if (ji33) = 0 then (none) else (some ((Int.tmod t197 (ji33)) == 0))) else (some false)) = some r := by first | (rw [hji34] at H; exact H) | (simp only [hji34] at H ⊢; exact H)
                have hji34_ : (if (ji33) < a1_1 then (ji33) else a1_1) = ji34 := hji34
                by_cases c35 : t198 = (ji34)
                rotate_left
                · rw [if_neg c35] at H
                  have c35b0 : (t198 == (ji34)) = false := beq_eq_false_iff_ne.mpr c35
                  have c35b1 : (t198 != (ji34)) = true := bne_iff_ne.mpr c35
                  exact absurd (Option.some.inj H) (by rw [hT]; decide)
                rw [if_pos c35] at H
                have c35b0 : (t198 == (ji34)) = true := beq_iff_eq.mpr c35
                have c35b1 : (t198 != (ji34)) = false := bne_eq_false_iff_eq.mpr c35
                clear c35
                by_cases c36 : (ji33) = 0
                · rw [if_pos c36] at H
                  exact absurd H (by simp)
                rw [if_neg c36] at H
                have c36b0 : ((ji33) == 0) = false := beq_eq_false_iff_ne.mpr c36
                have c36b1 : ((ji33) != 0) = true := bne_iff_ne.mpr c36
                obtain rfl := Option.some.inj H
                obtain ⟨Ao37, co37, eo37⟩ := Kd.R_slice HO_8.out
                subst eo37
                have hnb38 := NB200_192.out
                have hnc38 := NB192_200.out
                have hcz39_0 : wr.cell? ⟨gb200, 0, none⟩ = some (.int .i64 t197) := (blk_cell BK200.out 0).trans rfl
                have hcz39_1 : wr.cell? ⟨gb200, 1, none⟩ = some (.int .i64 t198) := (blk_cell BK200.out 1).trans rfl
                have hfz39_0 := blk_frozen BK200.out 0
                have hfz39_1 := blk_frozen BK200.out 1
                have hcz40_0 : wr.cell? ⟨gb192, 0, none⟩ = some (.int .i64 a1_0) := (blk_cell BK192.out 0).trans rfl
                have hcz40_1 : wr.cell? ⟨gb192, 1, none⟩ = some (.int .i64 a1_1) := (blk_cell BK192.out 1).trans rfl
                have hcz40_2 : wr.cell? ⟨gb192, 2, none⟩ = some (.int .i64 a1_2) := (blk_cell BK192.out 2).trans rfl
                have hfz40_0 := blk_frozen BK192.out 0
                have hfz40_1 := blk_frozen BK192.out 1
                have hfz40_2 := blk_frozen BK192.out 2
                go_wp2
                repeat (go_quiet (fail); try go_wp2)
                go_ret
                exact ⟨by first | rfl | (simp [errW_none, errW_some] <;> rfl) | (simp only [← hji20, ← hji31, ← hji33, ← hji34]; first | rfl | (simp [errW_none, errW_some] <;> rfl)) | (simp [*, errW_none, errW_some] <;> rfl), by repeat (first | (with_reducible first | exact HB.out | apply below_alloc | apply pw_below_drewN | apply below_drew1 | refine below_set ?_ GE192.out | refine below_set ?_ GE200.out) | exact HB.out)⟩
  · replace c4 := Bool.eq_false_iff.mpr c4
    subst c4
    have H1 : (some false) = some r := by rw [if_neg (show ¬ (false = true) by decide)] at H; exact H
    clear H
    have H := H1
    clear H1
    exact absurd (Option.some.inj H) (by rw [hT]; decide)

end Go.Proofs.Ytlhpejdbmbpmhaa.U
