/- Written by uprint.py (ours) for this seat: functions of the translation as Lean functions, and what their calls do. Not trusted: Lean checks it. -/
import Derived.Test.YtlhpejdbmbpmhaaUx0
import Derived.Test.YtlhpejdbmbpmhaaUx8
import Derived.Test.YtlhpejdbmbpmhaaUx18
import Derived.Test.YtlhpejdbmbpmhaaUx19
import Derived.Test.YtlhpejdbmbpmhaaUx25
namespace Go.Proofs.Ytlhpejdbmbpmhaa.U
open Go.RowKit Go.Proofs.YtlhpejdbmbpmhaaW.PrintWords Go.Proofs.YtlhpejdbmbpmhaaW.PrintLast Go.Proofs.YtlhpejdbmbpmhaaW.PrintMore
attribute [local go_sem] max2_int min2_int max_two min_two max_three min_three max_four min_four   -- for this text's walks alone
set_option linter.unusedVariables false
set_option linter.unusedSimpArgs false

/-! ### undercroftlaw08_BuddyTwice: function 9 -/
mutual
def undercroftlaw08_BuddyTwice.l0 : Nat → List Int → List Int → Int → Int → Int → Int → Int → Int → Option (Bool)
  | 0, _, _, _, _, _, _, _, _ => none
  | k + 1, x0, x7, x9, x11, x14, x15, x327000, x327001 => if x15 < (wrap64 (8 * (x0.length : Int))) then (if x15 ≥ x327000 then (undercroftlaw08_BuddyTwice.j1 k x0 x7 x9 x11 x14 x15 (decide (x15 < (wrap64 (x327000 + x327001)))) x327000 x327001) else (undercroftlaw08_BuddyTwice.j1 k x0 x7 x9 x11 x14 x15 false x327000 x327001)) else (if x11 = (wrap64 (x9 + x327001)) then (some (x14 == 4)) else (some false))
def undercroftlaw08_BuddyTwice.j1 : Nat → List Int → List Int → Int → Int → Int → Int → Bool → Int → Int → Option (Bool)
  | 0, _, _, _, _, _, _, _, _, _ => none
  | k + 1, x0, x7, x9, x11, x14, x15, x16, x327000, x327001 => if x16 = true then ((bits_Get.f x7 x15).bind fun t340 => (if t340 = true then (some false) else ((bits_Get.f x0 x15).bind fun t341 => (if t341 = true then (undercroftlaw08_BuddyTwice.l0 k x0 x7 x9 x11 x14 (wrap64 (x15 + 1)) x327000 x327001) else (some false))))) else ((bits_Get.f x7 x15).bind fun t342 => ((bits_Get.f x0 x15).bind fun t343 => (if (t342 != t343) = true then (some false) else (undercroftlaw08_BuddyTwice.l0 k x0 x7 x9 x11 x14 (wrap64 (x15 + 1)) x327000 x327001))))
end
def undercroftlaw08_BuddyTwice.f (k : Nat) (l0 : List Int) (a1 : Int) (a2_0 : Int) (a2_1 : Int) : Option (Bool) := (undercroftlaw08_alive.f k).bind fun t327 => (if t327 = true then ((buddy_Give.f k l0 a1 a2_0 a2_1).bind fun bt328 => (if bt328.2 = 0 then ((buddy_Free.f k l0 a1).bind fun bt332 => ((buddy_Free.f k bt328.1 a1).bind fun bt334 => ((buddy_Give.f k bt328.1 a1 a2_0 a2_1).bind fun bt336 => (undercroftlaw08_BuddyTwice.l0 k l0 bt328.1 bt332.1 bt334.1 bt336.2 0 a2_0 a2_1)))) else (some ((bt328.1.length : Int) == 0)))) else (some false))
theorem undercroftlaw08_BuddyTwice.mono_l : ∀ k, (∀ y0 y1 y2 y3 y4 y5 y6 y7, LeO (undercroftlaw08_BuddyTwice.l0 k y0 y1 y2 y3 y4 y5 y6 y7) (undercroftlaw08_BuddyTwice.l0 (k + 1) y0 y1 y2 y3 y4 y5 y6 y7)) ∧ (∀ y0 y1 y2 y3 y4 y5 y6 y7 y8, LeO (undercroftlaw08_BuddyTwice.j1 k y0 y1 y2 y3 y4 y5 y6 y7 y8) (undercroftlaw08_BuddyTwice.j1 (k + 1) y0 y1 y2 y3 y4 y5 y6 y7 y8))
  | 0 => ⟨fun _ _ _ _ _ _ _ _ r h => by simp [undercroftlaw08_BuddyTwice.l0] at h, fun _ _ _ _ _ _ _ _ _ r h => by simp [undercroftlaw08_BuddyTwice.j1] at h⟩
  | k + 1 => by
    obtain ⟨ih0, ih1⟩ := undercroftlaw08_BuddyTwice.mono_l k
    refine ⟨?_, ?_⟩
    · intro y0 y1 y2 y3 y4 y5 y6 y7
      unfold undercroftlaw08_BuddyTwice.l0
      repeat' first
      | (with_reducible exact ih0 _ _ _ _ _ _ _ _)
      | (with_reducible exact ih1 _ _ _ _ _ _ _ _ _)
      | (with_reducible exact buddy_Free.mono _ _ _)
      | (with_reducible exact buddy_Give.mono _ _ _ _ _)
      | (with_reducible exact undercroftlaw08_alive.mono _)
      | (with_reducible exact LeO.refl _)
      | (with_reducible exact LeO.none _)
      | (with_reducible refine LeO.ite ?_ ?_)
      | (with_reducible refine LeO.bind ?_ (fun _ => ?_))
      | exact ih0 _ _ _ _ _ _ _ _
      | exact ih1 _ _ _ _ _ _ _ _ _
      | exact buddy_Free.mono _ _ _
      | exact buddy_Give.mono _ _ _ _ _
      | exact undercroftlaw08_alive.mono _
      | exact LeO.none _
      | refine LeO.ite ?_ ?_
      | refine LeO.bind ?_ (fun _ => ?_)
    · intro y0 y1 y2 y3 y4 y5 y6 y7 y8
      unfold undercroftlaw08_BuddyTwice.j1
      repeat' first
      | (with_reducible exact ih0 _ _ _ _ _ _ _ _)
      | (with_reducible exact ih1 _ _ _ _ _ _ _ _ _)
      | (with_reducible exact buddy_Free.mono _ _ _)
      | (with_reducible exact buddy_Give.mono _ _ _ _ _)
      | (with_reducible exact undercroftlaw08_alive.mono _)
      | (with_reducible exact LeO.refl _)
      | (with_reducible exact LeO.none _)
      | (with_reducible refine LeO.ite ?_ ?_)
      | (with_reducible refine LeO.bind ?_ (fun _ => ?_))
      | exact ih0 _ _ _ _ _ _ _ _
      | exact ih1 _ _ _ _ _ _ _ _ _
      | exact buddy_Free.mono _ _ _
      | exact buddy_Give.mono _ _ _ _ _
      | exact undercroftlaw08_alive.mono _
      | exact LeO.none _
      | refine LeO.ite ?_ ?_
      | refine LeO.bind ?_ (fun _ => ?_)
theorem undercroftlaw08_BuddyTwice.mono : ∀ a0 a1 a2 a3 k, LeO (undercroftlaw08_BuddyTwice.f k a0 a1 a2 a3) (undercroftlaw08_BuddyTwice.f (k + 1) a0 a1 a2 a3) := by
  intro a0 a1 a2 a3 k
  obtain ⟨ih0, ih1⟩ := undercroftlaw08_BuddyTwice.mono_l k
  unfold undercroftlaw08_BuddyTwice.f
  repeat' first
      | (with_reducible exact ih0 _ _ _ _ _ _ _ _)
      | (with_reducible exact ih1 _ _ _ _ _ _ _ _ _)
      | (with_reducible exact buddy_Free.mono _ _ _)
      | (with_reducible exact buddy_Give.mono _ _ _ _ _)
      | (with_reducible exact undercroftlaw08_alive.mono _)
      | (with_reducible exact LeO.refl _)
      | (with_reducible exact LeO.none _)
      | (with_reducible refine LeO.ite ?_ ?_)
      | (with_reducible refine LeO.bind ?_ (fun _ => ?_))
      | exact ih0 _ _ _ _ _ _ _ _
      | exact ih1 _ _ _ _ _ _ _ _ _
      | exact buddy_Free.mono _ _ _
      | exact buddy_Give.mono _ _ _ _ _
      | exact undercroftlaw08_alive.mono _
      | exact LeO.none _
      | refine LeO.ite ?_ ?_
      | refine LeO.bind ?_ (fun _ => ?_)
set_option maxHeartbeats 8000000 in
set_option maxRecDepth 100000 in
theorem undercroftlaw08_BuddyTwice.calls (k : Nat) (A0 : Option Addr) (c0 : Nat) (l0 : List Int) (a1 : Int) (a2_0 : Int) (a2_1 : Int) (r : Bool) (w : World) (hr0 : Kd.C (Kd.int .u8) w A0 l0.length l0) (hc0 : l0.length ≤ c0) (h : undercroftlaw08_BuddyTwice.f k l0 a1 a2_0 a2_1 = some r) (hT : r = true) :
    Calls Try.prog 9 #[.slice A0 l0.length c0, .int .i64 a1, .agg #[.int .i64 a2_0, .int .i64 a2_1]] w fun e w' => e = .returned (.bool r) ∧ Below w.heap.size w w' := by
  have hu27 := Try.underlying27
  have HR0 := Aside0.mk hr0
  have HC0 := Aside0.mk hc0
  clear hr0 hc0
  have HB := Aside0.mk (Below.refl w.heap.size w)
  have H : ((undercroftlaw08_alive.f k).bind fun t327 => (if t327 = true then ((buddy_Give.f k l0 a1 a2_0 a2_1).bind fun bt328 => (if bt328.2 = 0 then ((buddy_Free.f k l0 a1).bind fun bt332 => ((buddy_Free.f k bt328.1 a1).bind fun bt334 => ((buddy_Give.f k bt328.1 a1 a2_0 a2_1).bind fun bt336 => (undercroftlaw08_BuddyTwice.l0 k l0 bt328.1 bt332.1 bt334.1 bt336.2 0 a2_0 a2_1)))) else (some ((bt328.1.length : Int) == 0)))) else (some false))) = some r := h
  clear h
  replace H := Option.bind_eq_some_iff.mp H
  obtain ⟨t327, A40, H⟩ := H
  replace H : (if t327 = true then ((buddy_Give.f k l0 a1 a2_0 a2_1).bind fun bt328 => (if bt328.2 = 0 then ((buddy_Free.f k l0 a1).bind fun bt332 => ((buddy_Free.f k bt328.1 a1).bind fun bt334 => ((buddy_Give.f k bt328.1 a1 a2_0 a2_1).bind fun bt336 => (undercroftlaw08_BuddyTwice.l0 k l0 bt328.1 bt332.1 bt334.1 bt336.2 0 a2_0 a2_1)))) else (some ((bt328.1.length : Int) == 0)))) else (some false)) = some r := H
  have A4 := Aside0.mk A40
  clear A40
  by_cases c5 : t327 = true
  · subst c5
    have H1 : ((buddy_Give.f k l0 a1 a2_0 a2_1).bind fun bt328 => (if bt328.2 = 0 then ((buddy_Free.f k l0 a1).bind fun bt332 => ((buddy_Free.f k bt328.1 a1).bind fun bt334 => ((buddy_Give.f k bt328.1 a1 a2_0 a2_1).bind fun bt336 => (undercroftlaw08_BuddyTwice.l0 k l0 bt328.1 bt332.1 bt334.1 bt336.2 0 a2_0 a2_1)))) else (some ((bt328.1.length : Int) == 0)))) = some r := by rw [if_pos rfl] at H; exact H
    clear H
    have H := H1
    clear H1
    replace H := Option.bind_eq_some_iff.mp H
    obtain ⟨⟨t328, t331⟩, A60, H⟩ := H
    replace H : (if t331 = 0 then ((buddy_Free.f k l0 a1).bind fun bt332 => ((buddy_Free.f k t328 a1).bind fun bt334 => ((buddy_Give.f k t328 a1 a2_0 a2_1).bind fun bt336 => (undercroftlaw08_BuddyTwice.l0 k l0 t328 bt332.1 bt334.1 bt336.2 0 a2_0 a2_1)))) else (some ((t328.length : Int) == 0))) = some r := H
    have A6 := Aside0.mk A60
    clear A60
    by_cases c7 : t331 = 0
    rotate_left
    · rw [if_neg c7] at H
      have c7b0 : (t331 == 0) = false := beq_eq_false_iff_ne.mpr c7
      have c7b1 : (t331 != 0) = true := bne_iff_ne.mpr c7
      obtain rfl := Option.some.inj H
      go_enter Try.func9, Try.ntmps9
      go_wp2_with (first | ((with_reducible refine gate_dst (N := 5) rfl ?_); refine box_event ?hg (N := 5) ?hd (cs := #[.int .i64 a2_0, .int .i64 a2_1]) (t := 27) ?hr ?_; (case hd => rfl); (case hg => rfl); (case hr => go_simp; first | done | rfl); intro gb326 hg w36 hbox hb; have n0_ := Aside0.mk (below_step (by repeat (first | (with_reducible first | exact HB.out | apply below_alloc | apply pw_below_drewN | apply below_drew1) | exact HB.out)) hb); have n1_ := Aside0.mk (hbox); have n2_ := Aside0.mk ((by rw [hg]; exact (below_size (by repeat (first | (with_reducible first | exact HB.out | apply below_alloc | apply pw_below_drewN | apply below_drew1) | exact HB.out))) : w.heap.size ≤ gb326)); have n3_ := Aside0.mk ((by rw [hg]; exact (below_size (by repeat (first | (with_reducible first | exact HB.out | apply below_alloc | apply pw_below_drewN | apply below_drew1) | exact HB.out))) : w.heap.size ≤ gb326)); clear HB; have HB := n0_; have BK326 := n1_; have GW326 := n2_; have GE326 := n3_; clear n0_ n1_ n2_ n3_; clear hb hbox hg) | ((with_reducible refine gate_callee (f := 10) rfl ?_); refine goesL_ (some 17) rfl rfl Try.func10 (by kernel_rfl) rfl #[] rfl (by (try simp only [List.map_toArray, List.map_cons, List.map_nil]); first | done | rfl | (simp only [List.length_drop, List.length_take]; rfl)) ?_; (with_reducible refine (undercroftlaw08_alive.calls k  true _ A4.out rfl).mono ?_); rintro e w37 ⟨rfl, hb⟩; refine ⟨_, rfl, ?_⟩; have n0_ := Aside0.mk (blk_below (g := gb326) (o := .cells #[.int .i64 a2_0, .int .i64 a2_1] 27 (0, 0)) (by (with_reducible repeat (first | refine blk_drewN ?_ _ | refine blk_drew ?_ | refine blk_alloc ?_ _)); exact BK326.out) hb); have n1_ := Aside0.mk (below_step (by repeat (first | (with_reducible first | exact HB.out | apply below_alloc | apply pw_below_drewN | apply below_drew1 | refine below_set ?_ GE326.out) | exact HB.out)) hb); clear BK326; clear HB; have BK326 := n0_; have HB := n1_; clear n0_ n1_; (try clear hb); (try clear hb2); (try clear hk); (try clear hi); have hcz38_0 : w37.cell? ⟨gb326, 0, none⟩ = some (.int .i64 a2_0) := (blk_cell BK326.out 0).trans rfl; have hcz38_1 : w37.cell? ⟨gb326, 1, none⟩ = some (.int .i64 a2_1) := (blk_cell BK326.out 1).trans rfl; have hfz38_0 := blk_frozen BK326.out 0; have hfz38_1 := blk_frozen BK326.out 1) | ((with_reducible refine gate_callee (f := 15) rfl ?_); refine goesL_ (some 23) rfl rfl Try.func15 (by kernel_rfl) rfl #[.slice A0 l0.length c0, .int .i64 a1, .agg #[.int .i64 a2_0, .int .i64 a2_1]] rfl (by (try simp only [List.map_toArray, List.map_cons, List.map_nil]); first | done | rfl | (simp only [List.length_drop, List.length_take]; rfl)) ?_; (with_reducible refine (buddy_Give.calls k _ _ l0 a1 a2_0 a2_1 t328 t331 _ ?side1 ?side2 A6.out).mono ?_); (case side1 => repeat (first | exact (Kd.C_below HR0.out HB.out) | (with_reducible refine Kd.C_alloc ?_ _) | (with_reducible refine Kd.C_drewN ?_ _) | (with_reducible refine Kd.C_drew ?_))); (case side2 => exact HC0.out); rintro e w39 ⟨v329, rfl, ho0, hb⟩; refine ⟨_, rfl, ?_⟩; have n0_ := Aside0.mk (Kd.R_lower ho0 (below_size (by repeat (first | (with_reducible first | exact HB.out | apply below_alloc | apply pw_below_drewN | apply below_drew1 | refine below_set ?_ GE326.out) | exact HB.out)))); have n1_ := Aside0.mk (blk_below (g := gb326) (o := .cells #[.int .i64 a2_0, .int .i64 a2_1] 27 (0, 0)) (by (with_reducible repeat (first | refine blk_drewN ?_ _ | refine blk_drew ?_ | refine blk_alloc ?_ _)); exact BK326.out) hb); have n2_ := Aside0.mk (below_step (by repeat (first | (with_reducible first | exact HB.out | apply below_alloc | apply pw_below_drewN | apply below_drew1 | refine below_set ?_ GE326.out) | exact HB.out)) hb); clear BK326; clear HB; have HO330 := n0_; have BK326 := n1_; have HB := n2_; clear n0_ n1_ n2_; (try clear hb); (try clear hb2); (try clear hk); (try clear hi); (try clear ho0); obtain ⟨Ao40, co40, eo40⟩ := Kd.R_slice HO330.out; subst eo40))
      go_ret
      exact ⟨by first | rfl | (simp [errW_none, errW_some] <;> rfl) | (simp [*, errW_none, errW_some] <;> rfl), by repeat (first | (with_reducible first | exact HB.out | apply below_alloc | apply pw_below_drewN | apply below_drew1 | refine below_set ?_ GE326.out) | exact HB.out)⟩
    rw [if_pos c7] at H
    have c7b0 : (t331 == 0) = true := beq_iff_eq.mpr c7
    have c7b1 : (t331 != 0) = false := bne_eq_false_iff_eq.mpr c7
    clear c7
    replace H := Option.bind_eq_some_iff.mp H
    obtain ⟨⟨t332, t333⟩, A80, H⟩ := H
    replace H : ((buddy_Free.f k t328 a1).bind fun bt334 => ((buddy_Give.f k t328 a1 a2_0 a2_1).bind fun bt336 => (undercroftlaw08_BuddyTwice.l0 k l0 t328 t332 bt334.1 bt336.2 0 a2_0 a2_1))) = some r := H
    have A8 := Aside0.mk A80
    clear A80
    replace H := Option.bind_eq_some_iff.mp H
    obtain ⟨⟨t334, t335⟩, A90, H⟩ := H
    replace H : ((buddy_Give.f k t328 a1 a2_0 a2_1).bind fun bt336 => (undercroftlaw08_BuddyTwice.l0 k l0 t328 t332 t334 bt336.2 0 a2_0 a2_1)) = some r := H
    have A9 := Aside0.mk A90
    clear A90
    replace H := Option.bind_eq_some_iff.mp H
    obtain ⟨⟨t336, t339⟩, A100, H⟩ := H
    replace H : (undercroftlaw08_BuddyTwice.l0 k l0 t328 t332 t334 t339 0 a2_0 a2_1) = some r := H
    have A10 := Aside0.mk A100
    clear A100
    have H' := Aside0.mk H
    clear H
    go_enter Try.func9, Try.ntmps9
    go_wp2_with (first | ((with_reducible refine gate_dst (N := 5) rfl ?_); refine box_event ?hg (N := 5) ?hd (cs := #[.int .i64 a2_0, .int .i64 a2_1]) (t := 27) ?hr ?_; (case hd => rfl); (case hg => rfl); (case hr => go_simp; first | done | rfl); intro gb326 hg w11 hbox hb; have n0_ := Aside0.mk (below_step (by repeat (first | (with_reducible first | exact HB.out | apply below_alloc | apply pw_below_drewN | apply below_drew1) | exact HB.out)) hb); have n1_ := Aside0.mk (hbox); have n2_ := Aside0.mk ((by rw [hg]; exact (below_size (by repeat (first | (with_reducible first | exact HB.out | apply below_alloc | apply pw_below_drewN | apply below_drew1) | exact HB.out))) : w.heap.size ≤ gb326)); have n3_ := Aside0.mk ((by rw [hg]; exact (below_size (by repeat (first | (with_reducible first | exact HB.out | apply below_alloc | apply pw_below_drewN | apply below_drew1) | exact HB.out))) : w.heap.size ≤ gb326)); clear HB; have HB := n0_; have BK326 := n1_; have GW326 := n2_; have GE326 := n3_; clear n0_ n1_ n2_ n3_; clear hb hbox hg) | ((with_reducible refine gate_callee (f := 10) rfl ?_); refine goesL_ (some 17) rfl rfl Try.func10 (by kernel_rfl) rfl #[] rfl (by (try simp only [List.map_toArray, List.map_cons, List.map_nil]); first | done | rfl | (simp only [List.length_drop, List.length_take]; rfl)) ?_; (with_reducible refine (undercroftlaw08_alive.calls k  true _ A4.out rfl).mono ?_); rintro e w12 ⟨rfl, hb⟩; refine ⟨_, rfl, ?_⟩; have n0_ := Aside0.mk (blk_below (g := gb326) (o := .cells #[.int .i64 a2_0, .int .i64 a2_1] 27 (0, 0)) (by (with_reducible repeat (first | refine blk_drewN ?_ _ | refine blk_drew ?_ | refine blk_alloc ?_ _)); exact BK326.out) hb); have n1_ := Aside0.mk (below_step (by repeat (first | (with_reducible first | exact HB.out | apply below_alloc | apply pw_below_drewN | apply below_drew1 | refine below_set ?_ GE326.out) | exact HB.out)) hb); clear BK326; clear HB; have BK326 := n0_; have HB := n1_; clear n0_ n1_; (try clear hb); (try clear hb2); (try clear hk); (try clear hi); have hcz13_0 : w12.cell? ⟨gb326, 0, none⟩ = some (.int .i64 a2_0) := (blk_cell BK326.out 0).trans rfl; have hcz13_1 : w12.cell? ⟨gb326, 1, none⟩ = some (.int .i64 a2_1) := (blk_cell BK326.out 1).trans rfl; have hfz13_0 := blk_frozen BK326.out 0; have hfz13_1 := blk_frozen BK326.out 1) | ((with_reducible refine gate_callee (f := 15) rfl ?_); refine goesL_ (some 23) rfl rfl Try.func15 (by kernel_rfl) rfl #[.slice A0 l0.length c0, .int .i64 a1, .agg #[.int .i64 a2_0, .int .i64 a2_1]] rfl (by (try simp only [List.map_toArray, List.map_cons, List.map_nil]); first | done | rfl | (simp only [List.length_drop, List.length_take]; rfl)) ?_; (with_reducible refine (buddy_Give.calls k _ _ l0 a1 a2_0 a2_1 t328 t331 _ ?side1 ?side2 A6.out).mono ?_); (case side1 => repeat (first | exact (Kd.C_below HR0.out HB.out) | (with_reducible refine Kd.C_alloc ?_ _) | (with_reducible refine Kd.C_drewN ?_ _) | (with_reducible refine Kd.C_drew ?_))); (case side2 => exact HC0.out); rintro e w14 ⟨v329, rfl, ho0, hb⟩; refine ⟨_, rfl, ?_⟩; have n0_ := Aside0.mk (Kd.R_lower ho0 (below_size (by repeat (first | (with_reducible first | exact HB.out | apply below_alloc | apply pw_below_drewN | apply below_drew1 | refine below_set ?_ GE326.out) | exact HB.out)))); have n1_ := Aside0.mk (blk_below (g := gb326) (o := .cells #[.int .i64 a2_0, .int .i64 a2_1] 27 (0, 0)) (by (with_reducible repeat (first | refine blk_drewN ?_ _ | refine blk_drew ?_ | refine blk_alloc ?_ _)); exact BK326.out) hb); have n2_ := Aside0.mk (below_step (by repeat (first | (with_reducible first | exact HB.out | apply below_alloc | apply pw_below_drewN | apply below_drew1 | refine below_set ?_ GE326.out) | exact HB.out)) hb); clear BK326; clear HB; have HO330 := n0_; have BK326 := n1_; have HB := n2_; clear n0_ n1_ n2_; (try clear hb); (try clear hb2); (try clear hk); (try clear hi); (try clear ho0)) | ((with_reducible refine gate_callee (f := 14) rfl ?_); refine goesL_ (some 34) rfl rfl Try.func14 (by kernel_rfl) rfl #[.slice A0 l0.length c0, .int .i64 a1] rfl (by (try simp only [List.map_toArray, List.map_cons, List.map_nil]); first | done | rfl | (simp only [List.length_drop, List.length_take]; rfl)) ?_; (with_reducible refine (buddy_Free.calls k _ _ l0 a1 t332 t333 _ ?side1 ?side2 A8.out).mono ?_); (case side1 => repeat (first | exact (Kd.C_below HR0.out HB.out) | (with_reducible refine Kd.C_alloc ?_ _) | (with_reducible refine Kd.C_drewN ?_ _) | (with_reducible refine Kd.C_drew ?_))); (case side2 => exact HC0.out); rintro e w15 ⟨rfl, hb⟩; refine ⟨_, rfl, ?_⟩; have n0_ := Aside0.mk (Kd.R_below (by (with_reducible repeat (first | apply Kd.R_alloc | apply Kd.R_drewN | apply Kd.R_drew)); exact HO330.out) hb); have n1_ := Aside0.mk (blk_below (g := gb326) (o := .cells #[.int .i64 a2_0, .int .i64 a2_1] 27 (0, 0)) (by (with_reducible repeat (first | refine blk_drewN ?_ _ | refine blk_drew ?_ | refine blk_alloc ?_ _)); exact BK326.out) hb); have n2_ := Aside0.mk (below_step (by repeat (first | (with_reducible first | exact HB.out | apply below_alloc | apply pw_below_drewN | apply below_drew1 | refine below_set ?_ GE326.out) | exact HB.out)) hb); clear HO330; clear BK326; clear HB; have HO330 := n0_; have BK326 := n1_; have HB := n2_; clear n0_ n1_ n2_; (try clear hb); (try clear hb2); (try clear hk); (try clear hi); obtain ⟨Ao16, co16, eo16⟩ := Kd.R_slice HO330.out; subst eo16) | ((with_reducible refine gate_callee (f := 14) rfl ?_); refine goesL_ (some 40) rfl rfl Try.func14 (by kernel_rfl) rfl #[.slice Ao16 t328.length co16, .int .i64 a1] rfl (by (try simp only [List.map_toArray, List.map_cons, List.map_nil]); first | done | rfl | (simp only [List.length_drop, List.length_take]; rfl)) ?_; (with_reducible refine (buddy_Free.calls k _ _ t328 a1 t334 t335 _ ?side1 ?side2 A9.out).mono ?_); (case side1 => repeat (first | exact (Kd.R_reads' HO330.out).2.2 | (with_reducible refine Kd.C_alloc ?_ _) | (with_reducible refine Kd.C_drewN ?_ _) | (with_reducible refine Kd.C_drew ?_))); (case side2 => exact (Kd.R_reads' HO330.out).2.1); rintro e w17 ⟨rfl, hb⟩; refine ⟨_, rfl, ?_⟩; have n0_ := Aside0.mk (Kd.R_below (by (with_reducible repeat (first | apply Kd.R_alloc | apply Kd.R_drewN | apply Kd.R_drew)); exact HO330.out) hb); have n1_ := Aside0.mk (blk_below (g := gb326) (o := .cells #[.int .i64 a2_0, .int .i64 a2_1] 27 (0, 0)) (by (with_reducible repeat (first | refine blk_drewN ?_ _ | refine blk_drew ?_ | refine blk_alloc ?_ _)); exact BK326.out) hb); have n2_ := Aside0.mk (below_step (by repeat (first | (with_reducible first | exact HB.out | apply below_alloc | apply pw_below_drewN | apply below_drew1 | refine below_set ?_ GE326.out) | exact HB.out)) hb); clear HO330; clear BK326; clear HB; have HO330 := n0_; have BK326 := n1_; have HB := n2_; clear n0_ n1_ n2_; (try clear hb); (try clear hb2); (try clear hk); (try clear hi); have hcz18_0 : w17.cell? ⟨gb326, 0, none⟩ = some (.int .i64 a2_0) := (blk_cell BK326.out 0).trans rfl; have hcz18_1 : w17.cell? ⟨gb326, 1, none⟩ = some (.int .i64 a2_1) := (blk_cell BK326.out 1).trans rfl; have hfz18_0 := blk_frozen BK326.out 0; have hfz18_1 := blk_frozen BK326.out 1) | ((with_reducible refine gate_callee (f := 15) rfl ?_); refine goesL_ (some 47) rfl rfl Try.func15 (by kernel_rfl) rfl #[.slice Ao16 t328.length co16, .int .i64 a1, .agg #[.int .i64 a2_0, .int .i64 a2_1]] rfl (by (try simp only [List.map_toArray, List.map_cons, List.map_nil]); first | done | rfl | (simp only [List.length_drop, List.length_take]; rfl)) ?_; (with_reducible refine (buddy_Give.calls k _ _ t328 a1 a2_0 a2_1 t336 t339 _ ?side1 ?side2 A10.out).mono ?_); (case side1 => repeat (first | exact (Kd.R_reads' HO330.out).2.2 | (with_reducible refine Kd.C_alloc ?_ _) | (with_reducible refine Kd.C_drewN ?_ _) | (with_reducible refine Kd.C_drew ?_))); (case side2 => exact (Kd.R_reads' HO330.out).2.1); rintro e w19 ⟨v337, rfl, ho0, hb⟩; refine ⟨_, rfl, ?_⟩; have n0_ := Aside0.mk (Kd.R_elder' (by (with_reducible repeat (first | apply Kd.R_alloc | apply Kd.R_drewN | apply Kd.R_drew)); exact HO330.out) (Kd.R_base ho0) hb); have n1_ := Aside0.mk (Kd.R_lower (Kd.R_new' ho0 (Kd.R_lt (by (with_reducible repeat (first | apply Kd.R_alloc | apply Kd.R_drewN | apply Kd.R_drew)); exact HO330.out))) (below_size (by repeat (first | (with_reducible first | exact HB.out | apply below_alloc | apply pw_below_drewN | apply below_drew1 | refine below_set ?_ GE326.out) | exact HB.out)))); have n2_ := Aside0.mk (blk_below (g := gb326) (o := .cells #[.int .i64 a2_0, .int .i64 a2_1] 27 (0, 0)) (by (with_reducible repeat (first | refine blk_drewN ?_ _ | refine blk_drew ?_ | refine blk_alloc ?_ _)); exact BK326.out) hb); have n3_ := Aside0.mk (below_step (by repeat (first | (with_reducible first | exact HB.out | apply below_alloc | apply pw_below_drewN | apply below_drew1 | refine below_set ?_ GE326.out) | exact HB.out)) hb); clear HO330; clear BK326; clear HB; have HO330 := n0_; have HO338 := n1_; have BK326 := n2_; have HB := n3_; clear n0_ n1_ n2_ n3_; (try clear hb); (try clear hb2); (try clear hk); (try clear hi); (try clear ho0)))
    go_loopg [15] k (fun kq v15 w' => ∃ (x15_1 : Int), v15 = .int .i64 x15_1 ∧ Aside0 (undercroftlaw08_BuddyTwice.l0 kq l0 t328 t332 t334 t339 x15_1 a2_0 a2_1 = some r) ∧ Aside0 (kq ≤ k) ∧ Aside0 (Kd.R (Kd.int .u8) 5 w' w.heap.size (fun _ => True) (.slice Ao16 t328.length co16) t328) ∧ Aside0 (w'.heap[gb326]? = some (.cells #[.int .i64 a2_0, .int .i64 a2_1] 27 (0, 0))) ∧ Aside0 (Below w.heap.size w w'))
    case atStart => exact ⟨(0), (by first | rfl | (simp; done) | (simp [*]; done)), H', ⟨Nat.le_refl _⟩, ⟨by (with_reducible repeat (first | apply Kd.R_alloc | apply Kd.R_drewN | apply Kd.R_drew)); exact Kd.R_mono HO330.out (fun _ hk => trivial)⟩, ⟨by (with_reducible repeat (first | refine blk_drewN ?_ _ | refine blk_drew ?_ | refine blk_alloc ?_ _)); exact BK326.out⟩, ⟨by repeat (first | (with_reducible first | exact HB.out | apply below_alloc | apply pw_below_drewN | apply below_drew1 | refine below_set ?_ GE326.out) | exact HB.out)⟩⟩
    case round =>
      clear H'
      try clear c1
      try clear p2
      try clear c5
      try clear c7
      try clear c7b0
      try clear c7b1
      try clear c9
      try clear c10
      try clear c14
      try clear c15
      try clear hcz13_0
      try clear hcz13_1
      try clear hcz18_0
      try clear hcz18_1
      try clear hfz13_0
      try clear hfz13_1
      try clear hfz18_0
      try clear hfz18_1
      obtain ⟨x15_1, rfl, HA, HK1, HO_7, BK326, HB⟩ := hrel
      cases gk with
      | zero => exact absurd HA.out (by simp [undercroftlaw08_BuddyTwice.l0])
      | succ k1 =>
        have H := HA.out
        clear HA
        simp only [undercroftlaw08_BuddyTwice.l0] at H
        by_cases c20 : x15_1 < (wrap64 (8 * (l0.length : Int)))
        rotate_left
        · rw [if_neg c20] at H
          have c20b0 : decide (x15_1 < (wrap64 (8 * (l0.length : Int)))) = false := decide_eq_false c20
          clear c20
          by_cases c33 : t334 = (wrap64 (t332 + a2_1))
          rotate_left
          · rw [if_neg c33] at H
            have c33b0 : (t334 == (wrap64 (t332 + a2_1))) = false := beq_eq_false_iff_ne.mpr c33
            have c33b1 : (t334 != (wrap64 (t332 + a2_1))) = true := bne_iff_ne.mpr c33
            exact absurd (Option.some.inj H) (by rw [hT]; decide)
          rw [if_pos c33] at H
          have c33b0 : (t334 == (wrap64 (t332 + a2_1))) = true := beq_iff_eq.mpr c33
          have c33b1 : (t334 != (wrap64 (t332 + a2_1))) = false := bne_eq_false_iff_eq.mpr c33
          clear c33
          obtain rfl := Option.some.inj H
          have hcz34_0 : wr.cell? ⟨gb326, 0, none⟩ = some (.int .i64 a2_0) := (blk_cell BK326.out 0).trans rfl
          have hcz34_1 : wr.cell? ⟨gb326, 1, none⟩ = some (.int .i64 a2_1) := (blk_cell BK326.out 1).trans rfl
          have hfz34_0 := blk_frozen BK326.out 0
          have hfz34_1 := blk_frozen BK326.out 1
          go_wp2
          go_ret
          exact ⟨by first | rfl | (simp [errW_none, errW_some] <;> rfl) | (simp [*, errW_none, errW_some] <;> rfl), by repeat (first | (with_reducible first | exact HB.out | apply below_alloc | apply pw_below_drewN | apply below_drew1 | refine below_set ?_ GE326.out) | exact HB.out)⟩
        rw [if_pos c20] at H
        have c20b0 : decide (x15_1 < (wrap64 (8 * (l0.length : Int)))) = true := decide_eq_true c20
        clear c20
        have HC21 := Aside0.mk H
        clear H
        go_upto_region 12 with (fail)
        go_cut [16] (fun v16 wc => ∃ (kq : Nat) (x16_20 : Bool), v16 = .bool x16_20 ∧ Aside0 (undercroftlaw08_BuddyTwice.j1 kq l0 t328 t332 t334 t339 x15_1 x16_20 a2_0 a2_1 = some r) ∧ Aside0 (kq ≤ k1) ∧ Aside0 (Kd.R (Kd.int .u8) 5 wc w.heap.size (fun _ => True) (.slice Ao16 t328.length co16) t328) ∧ Aside0 (wc.heap[gb326]? = some (.cells #[.int .i64 a2_0, .int .i64 a2_1] 27 (0, 0))) ∧ Aside0 (Below w.heap.size w wc))
        case first =>
          have H := HC21.out
          clear HC21
          by_cases c22 : x15_1 ≥ a2_0
          rotate_left
          · rw [if_neg c22] at H
            have c22b0 : decide (a2_0 ≤ x15_1) = false := decide_eq_false c22
            clear c22
            (first | rw [c22b0] | (simp only [i64_w, i32_w]; rw [c22b0]) | skip)
            have H' := Aside0.mk H
            clear H
            have hcz24_0 : wr.cell? ⟨gb326, 0, none⟩ = some (.int .i64 a2_0) := (blk_cell BK326.out 0).trans rfl
            have hcz24_1 : wr.cell? ⟨gb326, 1, none⟩ = some (.int .i64 a2_1) := (blk_cell BK326.out 1).trans rfl
            have hfz24_0 := blk_frozen BK326.out 0
            have hfz24_1 := blk_frozen BK326.out 1
            go_wp2
            go_meet
            case rel => exact ⟨_, (false), (by first | rfl | (simp; done) | (simp [*]; done)), H', ⟨by have := HK1.out; first | omega | exact Nat.le_refl _⟩, ⟨by (with_reducible repeat (first | apply Kd.R_alloc | apply Kd.R_drewN | apply Kd.R_drew)); exact HO_7.out⟩, ⟨by (with_reducible repeat (first | refine blk_drewN ?_ _ | refine blk_drew ?_ | refine blk_alloc ?_ _)); exact BK326.out⟩, ⟨by repeat (first | (with_reducible first | exact HB.out | apply below_alloc | apply pw_below_drewN | apply below_drew1 | refine below_set ?_ GE326.out) | exact HB.out)⟩⟩
          rw [if_pos c22] at H
          have c22b0 : decide (a2_0 ≤ x15_1) = true := decide_eq_true c22
          clear c22
          (first | rw [c22b0] | (simp only [i64_w, i32_w]; rw [c22b0]) | skip)
          have H' := Aside0.mk H
          clear H
          have hcz23_0 : wr.cell? ⟨gb326, 0, none⟩ = some (.int .i64 a2_0) := (blk_cell BK326.out 0).trans rfl
          have hcz23_1 : wr.cell? ⟨gb326, 1, none⟩ = some (.int .i64 a2_1) := (blk_cell BK326.out 1).trans rfl
          have hfz23_0 := blk_frozen BK326.out 0
          have hfz23_1 := blk_frozen BK326.out 1
          go_wp2
          go_meet
          case rel => exact ⟨_, (decide (x15_1 < (wrap64 (a2_0 + a2_1)))), (by first | rfl | (simp; done) | (simp [*]; done)), H', ⟨by have := HK1.out; first | omega | exact Nat.le_refl _⟩, ⟨by (with_reducible repeat (first | apply Kd.R_alloc | apply Kd.R_drewN | apply Kd.R_drew)); exact HO_7.out⟩, ⟨by (with_reducible repeat (first | refine blk_drewN ?_ _ | refine blk_drew ?_ | refine blk_alloc ?_ _)); exact BK326.out⟩, ⟨by repeat (first | (with_reducible first | exact HB.out | apply below_alloc | apply pw_below_drewN | apply below_drew1 | refine below_set ?_ GE326.out) | exact HB.out)⟩⟩
        case rest =>
          clear HC21
          try clear c1
          try clear c2
          try clear p2
          try clear c5
          try clear p6
          try clear c7
          try clear c7b0
          try clear c7b1
          try clear c9
          try clear c10
          try clear c14
          try clear c15
          try clear c20
          try clear c20b0
          try clear c22
          try clear c22b0
          try clear hcz13_0
          try clear hcz13_1
          try clear hcz18_0
          try clear hcz18_1
          try clear hcz23_0
          try clear hcz23_1
          try clear hcz24_0
          try clear hcz24_1
          try clear hfz13_0
          try clear hfz13_1
          try clear hfz18_0
          try clear hfz18_1
          try clear hfz23_0
          try clear hfz23_1
          try clear hfz24_0
          try clear hfz24_1
          try clear p2
          obtain ⟨kq, x16_20, rfl, HA, HJ20, HO_7, BK326, HB⟩ := hcut
          cases kq with
          | zero => exact absurd HA.out (by simp [undercroftlaw08_BuddyTwice.j1])
          | succ kj20 =>
            have H := HA.out
            clear HA
            simp only [undercroftlaw08_BuddyTwice.j1] at H
            by_cases c25 : x16_20 = true
            rotate_left
            · replace c25 := Bool.eq_false_iff.mpr c25
              subst c25
              have H1 : ((bits_Get.f t328 x15_1).bind fun t342 => ((bits_Get.f l0 x15_1).bind fun t343 => (if (t342 != t343) = true then (some false) else (undercroftlaw08_BuddyTwice.l0 kj20 l0 t328 t332 t334 t339 (wrap64 (x15_1 + 1)) a2_0 a2_1)))) = some r := by rw [if_neg (show ¬ (false = true) by decide)] at H; exact H
              clear H
              have H := H1
              clear H1
              replace H := Option.bind_eq_some_iff.mp H
              obtain ⟨t342, A300, H⟩ := H
              replace H : ((bits_Get.f l0 x15_1).bind fun t343 => (if (t342 != t343) = true then (some false) else (undercroftlaw08_BuddyTwice.l0 kj20 l0 t328 t332 t334 t339 (wrap64 (x15_1 + 1)) a2_0 a2_1))) = some r := H
              have A30 := Aside0.mk A300
              clear A300
              replace H := Option.bind_eq_some_iff.mp H
              obtain ⟨t343, A310, H⟩ := H
              replace H : (if (t342 != t343) = true then (some false) else (undercroftlaw08_BuddyTwice.l0 kj20 l0 t328 t332 t334 t339 (wrap64 (x15_1 + 1)) a2_0 a2_1)) = some r := H
              have A31 := Aside0.mk A310
              clear A310
              by_cases c32 : (t342 != t343) = true
              · rw [if_pos c32] at H
                have c32b0 : (t342 != t343) = true := c32
                (try (have c32b1 : decide (t342 = t343) = false := by simpa using c32))
                (try (have c32b2 : (t342 == t343) = false := by simpa using c32))
                (try (have c32b3 : ¬ (t342 = t343) := by simpa using c32))
                clear c32
                exact absurd (Option.some.inj H) (by rw [hT]; decide)
              rw [if_neg c32] at H
              have c32b0 : (t342 != t343) = false := by simpa using c32
              (try (have c32b1 : decide (t342 = t343) = true := by simpa using c32))
              (try (have c32b2 : (t342 == t343) = true := by simpa using c32))
              clear c32
              have H' := Aside0.mk H
              clear H
              go_wp2_with (first | (go_at_call 20; (with_reducible refine (bits_Get.calls _ _ t328 x15_1 t342 _ ?side1 ?side2 A30.out).mono ?_); (case side1 => repeat (first | exact (Kd.R_reads' HO_7.out).2.2 | (with_reducible refine Kd.C_alloc ?_ _) | (with_reducible refine Kd.C_drewN ?_ _) | (with_reducible refine Kd.C_drew ?_))); (case side2 => exact (Kd.R_reads' HO_7.out).2.1); rintro e w' ⟨rfl, ⟨nd, rfl⟩⟩) | (go_at_call 20; (with_reducible refine (bits_Get.calls _ _ l0 x15_1 t343 _ ?side1 ?side2 A31.out).mono ?_); (case side1 => repeat (first | exact (Kd.C_below HR0.out (by repeat (first | (with_reducible first | exact HB.out | apply below_alloc | apply pw_below_drewN | apply below_drew1 | refine below_set ?_ GE326.out) | exact HB.out))) | (with_reducible refine Kd.C_alloc ?_ _) | (with_reducible refine Kd.C_drewN ?_ _) | (with_reducible refine Kd.C_drew ?_))); (case side2 => exact HC0.out); rintro e w' ⟨rfl, ⟨nd, rfl⟩⟩))
              go_roundg kj20
              case measure => have := HK1.out; have := HJ20.out; omega
              case rel => exact ⟨(wrap64 (x15_1 + 1)), (by first | rfl | (simp; done) | (simp [*]; done)), H', ⟨by have := HK1.out; have := HJ20.out; omega⟩, ⟨by (with_reducible repeat (first | apply Kd.R_alloc | apply Kd.R_drewN | apply Kd.R_drew)); exact HO_7.out⟩, ⟨by (with_reducible repeat (first | refine blk_drewN ?_ _ | refine blk_drew ?_ | refine blk_alloc ?_ _)); exact BK326.out⟩, ⟨by repeat (first | (with_reducible first | exact HB.out | apply below_alloc | apply pw_below_drewN | apply below_drew1 | refine below_set ?_ GE326.out) | exact HB.out)⟩⟩
            subst c25
            have H1 : ((bits_Get.f t328 x15_1).bind fun t340 => (if t340 = true then (some false) else ((bits_Get.f l0 x15_1).bind fun t341 => (if t341 = true then (undercroftlaw08_BuddyTwice.l0 kj20 l0 t328 t332 t334 t339 (wrap64 (x15_1 + 1)) a2_0 a2_1) else (some false))))) = some r := by rw [if_pos rfl] at H; exact H
            clear H
            have H := H1
            clear H1
            replace H := Option.bind_eq_some_iff.mp H
            obtain ⟨t340, A260, H⟩ := H
            replace H : (if t340 = true then (some false) else ((bits_Get.f l0 x15_1).bind fun t341 => (if t341 = true then (undercroftlaw08_BuddyTwice.l0 kj20 l0 t328 t332 t334 t339 (wrap64 (x15_1 + 1)) a2_0 a2_1) else (some false)))) = some r := H
            have A26 := Aside0.mk A260
            clear A260
            by_cases c27 : t340 = true
            · subst c27
              have H1 : (some false) = some r := by rw [if_pos rfl] at H; exact H
              clear H
              have H := H1
              clear H1
              exact absurd (Option.some.inj H) (by rw [hT]; decide)
            replace c27 := Bool.eq_false_iff.mpr c27
            subst c27
            have H1 : ((bits_Get.f l0 x15_1).bind fun t341 => (if t341 = true then (undercroftlaw08_BuddyTwice.l0 kj20 l0 t328 t332 t334 t339 (wrap64 (x15_1 + 1)) a2_0 a2_1) else (some false))) = some r := by rw [if_neg (show ¬ (false = true) by decide)] at H; exact H
            clear H
            have H := H1
            clear H1
            replace H := Option.bind_eq_some_iff.mp H
            obtain ⟨t341, A280, H⟩ := H
            replace H : (if t341 = true then (undercroftlaw08_BuddyTwice.l0 kj20 l0 t328 t332 t334 t339 (wrap64 (x15_1 + 1)) a2_0 a2_1) else (some false)) = some r := H
            have A28 := Aside0.mk A280
            clear A280
            by_cases c29 : t341 = true
            rotate_left
            · replace c29 := Bool.eq_false_iff.mpr c29
              subst c29
              have H1 : (some false) = some r := by rw [if_neg (show ¬ (false = true) by decide)] at H; exact H
              clear H
              have H := H1
              clear H1
              exact absurd (Option.some.inj H) (by rw [hT]; decide)
            subst c29
            have H1 : (undercroftlaw08_BuddyTwice.l0 kj20 l0 t328 t332 t334 t339 (wrap64 (x15_1 + 1)) a2_0 a2_1) = some r := by rw [if_pos rfl] at H; exact H
            clear H
            have H := H1
            clear H1
            have H' := Aside0.mk H
            clear H
            go_wp2_with (first | (go_at_call 20; (with_reducible refine (bits_Get.calls _ _ t328 x15_1 false _ ?side1 ?side2 A26.out).mono ?_); (case side1 => repeat (first | exact (Kd.R_reads' HO_7.out).2.2 | (with_reducible refine Kd.C_alloc ?_ _) | (with_reducible refine Kd.C_drewN ?_ _) | (with_reducible refine Kd.C_drew ?_))); (case side2 => exact (Kd.R_reads' HO_7.out).2.1); rintro e w' ⟨rfl, ⟨nd, rfl⟩⟩) | (go_at_call 20; (with_reducible refine (bits_Get.calls _ _ l0 x15_1 true _ ?side1 ?side2 A28.out).mono ?_); (case side1 => repeat (first | exact (Kd.C_below HR0.out (by repeat (first | (with_reducible first | exact HB.out | apply below_alloc | apply pw_below_drewN | apply below_drew1 | refine below_set ?_ GE326.out) | exact HB.out))) | (with_reducible refine Kd.C_alloc ?_ _) | (with_reducible refine Kd.C_drewN ?_ _) | (with_reducible refine Kd.C_drew ?_))); (case side2 => exact HC0.out); rintro e w' ⟨rfl, ⟨nd, rfl⟩⟩))
            go_roundg kj20
            case measure => have := HK1.out; have := HJ20.out; omega
            case rel => exact ⟨(wrap64 (x15_1 + 1)), (by first | rfl | (simp; done) | (simp [*]; done)), H', ⟨by have := HK1.out; have := HJ20.out; omega⟩, ⟨by (with_reducible repeat (first | apply Kd.R_alloc | apply Kd.R_drewN | apply Kd.R_drew)); exact HO_7.out⟩, ⟨by (with_reducible repeat (first | refine blk_drewN ?_ _ | refine blk_drew ?_ | refine blk_alloc ?_ _)); exact BK326.out⟩, ⟨by repeat (first | (with_reducible first | exact HB.out | apply below_alloc | apply pw_below_drewN | apply below_drew1 | refine below_set ?_ GE326.out) | exact HB.out)⟩⟩
  · replace c5 := Bool.eq_false_iff.mpr c5
    subst c5
    have H1 : (some false) = some r := by rw [if_neg (show ¬ (false = true) by decide)] at H; exact H
    clear H
    have H := H1
    clear H1
    exact absurd (Option.some.inj H) (by rw [hT]; decide)

end Go.Proofs.Ytlhpejdbmbpmhaa.U
