/- Written by uprint.py (ours) for this seat: functions of the translation as Lean functions, and what their calls do. Not trusted: Lean checks it. -/
import Derived.Test.YtlhpejdbmbpmhaaUx0
import Derived.Test.YtlhpejdbmbpmhaaUx2
import Derived.Test.YtlhpejdbmbpmhaaUx7
import Derived.Test.YtlhpejdbmbpmhaaUx8
import Derived.Test.YtlhpejdbmbpmhaaUx17
namespace Go.Proofs.Ytlhpejdbmbpmhaa.U
open Go.RowKit Go.Proofs.YtlhpejdbmbpmhaaW.PrintWords Go.Proofs.YtlhpejdbmbpmhaaW.PrintLast Go.Proofs.YtlhpejdbmbpmhaaW.PrintMore
attribute [local go_sem] max2_int min2_int max_two min_two max_three min_three max_four min_four   -- for this text's walks alone
set_option linter.unusedVariables false
set_option linter.unusedSimpArgs false

/-! ### buddy_Free: function 14 -/
def buddy_Free.f (k : Nat) (l0 : List Int) (a1 : Int) : Option (Int × Int) := (buddy_newPool.f l0 a1).bind fun bt206 => (if bt206.2.2 = 0 then ((bits_Count.f k l0 0 a1).bind fun t212 => (some (wrap64 (a1 - t212), 0))) else (some (0, bt206.2.2)))
theorem buddy_Free.mono : ∀ a0 a1 k, LeO (buddy_Free.f k a0 a1) (buddy_Free.f (k + 1) a0 a1) := by
  intro a0 a1 k
  unfold buddy_Free.f
  repeat' first
      | (with_reducible exact bits_Count.mono _ _ _ _)
      | (with_reducible exact LeO.refl _)
      | (with_reducible exact LeO.none _)
      | (with_reducible refine LeO.ite ?_ ?_)
      | (with_reducible refine LeO.bind ?_ (fun _ => ?_))
      | exact bits_Count.mono _ _ _ _
      | exact LeO.none _
      | refine LeO.ite ?_ ?_
      | refine LeO.bind ?_ (fun _ => ?_)
set_option maxHeartbeats 8000000 in
set_option maxRecDepth 100000 in
theorem buddy_Free.calls (k : Nat) (A0 : Option Addr) (c0 : Nat) (l0 : List Int) (a1 : Int) (r1 : Int) (r2 : Int) (w : World) (hr0 : Kd.C (Kd.int .u8) w A0 l0.length l0) (hc0 : l0.length ≤ c0) (h : buddy_Free.f k l0 a1 = some (r1, r2)) :
    Calls Try.prog 14 #[.slice A0 l0.length c0, .int .i64 a1] w fun e w' => e = .returned (.tuple #[.int .i64 r1, .int .i64 r2]) ∧ Below w.heap.size w w' := by
  have hu45 := Try.underlying45
  have HR0 := Aside0.mk hr0
  have HC0 := Aside0.mk hc0
  clear hr0 hc0
  have HB := Aside0.mk (Below.refl w.heap.size w)
  have H : ((buddy_newPool.f l0 a1).bind fun bt206 => (if bt206.2.2 = 0 then ((bits_Count.f k l0 0 a1).bind fun t212 => (some (wrap64 (a1 - t212), 0))) else (some (0, bt206.2.2)))) = some (r1, r2) := h
  clear h
  replace H := Option.bind_eq_some_iff.mp H
  obtain ⟨⟨t206, t209, t210⟩, A30, H⟩ := H
  replace H : (if t210 = 0 then ((bits_Count.f k l0 0 a1).bind fun t212 => (some (wrap64 (a1 - t212), 0))) else (some (0, t210))) = some (r1, r2) := H
  have A3 := Aside0.mk A30
  clear A30
  by_cases c4 : t210 = 0
  · rw [if_pos c4] at H
    have c4b0 : (t210 == 0) = true := beq_iff_eq.mpr c4
    have c4b1 : (t210 != 0) = false := bne_eq_false_iff_eq.mpr c4
    clear c4
    replace H := Option.bind_eq_some_iff.mp H
    obtain ⟨t212, A50, H⟩ := H
    replace H : (some (wrap64 (a1 - t212), 0)) = some (r1, r2) := H
    have A5 := Aside0.mk A50
    clear A50
    simp only [Option.some.injEq, Prod.mk.injEq] at H
    obtain ⟨rfl, rfl⟩ := H
    go_enter Try.func14, Try.ntmps14
    go_wp2_with (first | ((with_reducible refine gate_callee (f := 21) rfl ?_); refine goesL_ (some 11) rfl rfl Try.func21 (by kernel_rfl) rfl #[.slice A0 l0.length c0, .int .i64 a1] rfl (by (try simp only [List.map_toArray, List.map_cons, List.map_nil]); first | done | rfl | (simp only [List.length_drop, List.length_take]; rfl)) ?_; (with_reducible refine (buddy_newPool.calls (fun k_ => k_ < w.heap.size) _ _ l0 a1 t206 t209 t210 _ ?side1 A3.out).mono ?_); (case side1 => exact Kd.V_mk HC0.out (Kd.F_below (Kd.C_F (Kd.heap_int .u8) HR0.out) (by repeat (first | (with_reducible first | exact HB.out | apply below_alloc | apply pw_below_drewN | apply below_drew1) | exact HB.out)))); rintro e w6 ⟨v207, rfl, ho0, hb⟩; refine ⟨_, rfl, ?_⟩; have n0_ := Aside0.mk (Kd.V_lower (Kd.V_mono (ok' := fun k_ => True) ho0 (fun k_ hk_ => trivial)) (below_size (by repeat (first | (with_reducible first | exact HB.out | apply below_alloc | apply pw_below_drewN | apply below_drew1) | exact HB.out)))); have n1_ := Aside0.mk (below_step (by repeat (first | (with_reducible first | exact HB.out | apply below_alloc | apply pw_below_drewN | apply below_drew1) | exact HB.out)) hb); clear HB; have HO208 := n0_; have HB := n1_; clear n0_ n1_; (try clear hb); (try clear hb2); (try clear hk); (try clear hi); (try clear ho0)) | ((with_reducible refine gate_dst (N := 6) rfl ?_); refine box_event ?hg (N := 6) ?hd (cs := #[.slice none 0 0, .int .i64 0]) (t := 45) ?hr ?_; (case hd => rfl); (case hg => rfl); (case hr => go_simp; first | done | rfl); intro gb211 hg w7 hbox hb; have n0_ := Aside0.mk (Kd.V_below (Kd.V_elderB (by (with_reducible repeat (first | apply Kd.V_alloc | apply Kd.V_drewN | apply Kd.V_drew)); exact HO208.out) gb211 (Nat.le_of_eq hg.symm)) hb); have n1_ := Aside0.mk (below_step (by repeat (first | (with_reducible first | exact HB.out | apply below_alloc | apply pw_below_drewN | apply below_drew1) | exact HB.out)) hb); have n2_ := Aside0.mk (hbox); have n3_ := Aside0.mk ((by rw [hg]; exact (below_size (by repeat (first | (with_reducible first | exact HB.out | apply below_alloc | apply pw_below_drewN | apply below_drew1) | exact HB.out))) : w.heap.size ≤ gb211)); have n4_ := Aside0.mk ((by rw [hg]; exact (below_size (by repeat (first | (with_reducible first | exact HB.out | apply below_alloc | apply pw_below_drewN | apply below_drew1) | exact HB.out))) : w.heap.size ≤ gb211)); clear HO208; clear HB; have HO208 := n0_; have HB := n1_; have BK211 := n2_; have GW211 := n3_; have GE211 := n4_; clear n0_ n1_ n2_ n3_ n4_; clear hb hbox hg; obtain ⟨Ao8, co8, eo8⟩ := Kd.V_slice HO208.out; subst eo8; have hcz9_0 : w7.cell? ⟨gb211, 0, none⟩ = some (.slice none 0 0) := (blk_cell BK211.out 0).trans rfl; have hcz9_1 : w7.cell? ⟨gb211, 1, none⟩ = some (.int .i64 0) := (blk_cell BK211.out 1).trans rfl; have hfz9_0 := blk_frozen BK211.out 0; have hfz9_1 := blk_frozen BK211.out 1) | ((with_reducible refine gate_callee (f := 30) rfl ?_); refine goesL_ (some 20) rfl rfl Try.func30 (by kernel_rfl) rfl #[.slice A0 l0.length c0, .int .i64 0, .int .i64 a1] rfl (by (try simp only [List.map_toArray, List.map_cons, List.map_nil]); first | done | rfl | (simp only [List.length_drop, List.length_take]; rfl)) ?_; (with_reducible refine (bits_Count.calls k _ _ l0 0 a1 t212 _ ?side1 ?side2 A5.out).mono ?_); (case side1 => exact Kd.C_below HR0.out (by repeat (first | (with_reducible first | exact HB.out | apply below_alloc | apply pw_below_drewN | apply below_drew1 | refine below_set ?_ GE211.out) | exact HB.out))); (case side2 => exact HC0.out); rintro e w10 ⟨rfl, hb⟩; refine ⟨_, rfl, ?_⟩; have n0_ := Aside0.mk (Kd.V_below (by (with_reducible repeat (first | apply Kd.V_alloc | apply Kd.V_drewN | apply Kd.V_drew)); exact (Kd.V_mono (Kd.V_far (p := ⟨gb211, 1, none⟩) (Kd.V_far (p := ⟨gb211, 0, none⟩) (Kd.V_mono HO208.out (fun k_ hk => (⟨hk, hk.2⟩ : _ ∧ k_ ≠ gb211))) (fun _ hk => hk.2) (.slice Ao8 t206.length co8)) (fun _ hk => hk.2) (.int .i64 t209)) (fun _ h_ => h_.1))) hb); have n1_ := Aside0.mk (blk_below (g := gb211) (o := .cells #[.slice Ao8 t206.length co8, .int .i64 t209] 45 (0, 0)) (by (with_reducible repeat (first | refine blk_drewN ?_ _ | refine blk_drew ?_ | refine blk_alloc ?_ _)); refine blk_put (cs := #[.slice Ao8 t206.length co8, .int .i64 0]) ?_ 1 _ rfl; (with_reducible repeat (first | refine blk_drewN ?_ _ | refine blk_drew ?_ | refine blk_alloc ?_ _)); refine blk_put (cs := #[.slice none 0 0, .int .i64 0]) ?_ 0 _ rfl; (with_reducible repeat (first | refine blk_drewN ?_ _ | refine blk_drew ?_ | refine blk_alloc ?_ _)); exact BK211.out) hb); have n2_ := Aside0.mk (below_step (by repeat (first | (with_reducible first | exact HB.out | apply below_alloc | apply pw_below_drewN | apply below_drew1 | refine below_set ?_ GE211.out) | exact HB.out)) hb); clear HO208; clear BK211; clear HB; have HO208 := n0_; have BK211 := n1_; have HB := n2_; clear n0_ n1_ n2_; (try clear hb); (try clear hb2); (try clear hk); (try clear hi)))
    go_ret2
    exact ⟨by first | rfl | (simp [errW_none, errW_some] <;> rfl) | (simp [*, errW_none, errW_some] <;> rfl), by repeat (first | (with_reducible first | exact HB.out | apply below_alloc | apply pw_below_drewN | apply below_drew1 | refine below_set ?_ GE211.out) | exact HB.out)⟩
  · rw [if_neg c4] at H
    have c4b0 : (t210 == 0) = false := beq_eq_false_iff_ne.mpr c4
    have c4b1 : (t210 != 0) = true := bne_iff_ne.mpr c4
    simp only [Option.some.injEq, Prod.mk.injEq] at H
    obtain ⟨rfl, rfl⟩ := H
    go_enter Try.func14, Try.ntmps14
    go_wp2_with (first | ((with_reducible refine gate_callee (f := 21) rfl ?_); refine goesL_ (some 11) rfl rfl Try.func21 (by kernel_rfl) rfl #[.slice A0 l0.length c0, .int .i64 a1] rfl (by (try simp only [List.map_toArray, List.map_cons, List.map_nil]); first | done | rfl | (simp only [List.length_drop, List.length_take]; rfl)) ?_; (with_reducible refine (buddy_newPool.calls (fun k_ => k_ < w.heap.size) _ _ l0 a1 t206 t209 t210 _ ?side1 A3.out).mono ?_); (case side1 => exact Kd.V_mk HC0.out (Kd.F_below (Kd.C_F (Kd.heap_int .u8) HR0.out) (by repeat (first | (with_reducible first | exact HB.out | apply below_alloc | apply pw_below_drewN | apply below_drew1) | exact HB.out)))); rintro e w11 ⟨v207, rfl, ho0, hb⟩; refine ⟨_, rfl, ?_⟩; have n0_ := Aside0.mk (Kd.V_lower (Kd.V_mono (ok' := fun k_ => True) ho0 (fun k_ hk_ => trivial)) (below_size (by repeat (first | (with_reducible first | exact HB.out | apply below_alloc | apply pw_below_drewN | apply below_drew1) | exact HB.out)))); have n1_ := Aside0.mk (below_step (by repeat (first | (with_reducible first | exact HB.out | apply below_alloc | apply pw_below_drewN | apply below_drew1) | exact HB.out)) hb); clear HB; have HO208 := n0_; have HB := n1_; clear n0_ n1_; (try clear hb); (try clear hb2); (try clear hk); (try clear hi); (try clear ho0)) | ((with_reducible refine gate_dst (N := 6) rfl ?_); refine box_event ?hg (N := 6) ?hd (cs := #[.slice none 0 0, .int .i64 0]) (t := 45) ?hr ?_; (case hd => rfl); (case hg => rfl); (case hr => go_simp; first | done | rfl); intro gb211 hg w12 hbox hb; have n0_ := Aside0.mk (Kd.V_below (Kd.V_elderB (by (with_reducible repeat (first | apply Kd.V_alloc | apply Kd.V_drewN | apply Kd.V_drew)); exact HO208.out) gb211 (Nat.le_of_eq hg.symm)) hb); have n1_ := Aside0.mk (below_step (by repeat (first | (with_reducible first | exact HB.out | apply below_alloc | apply pw_below_drewN | apply below_drew1) | exact HB.out)) hb); have n2_ := Aside0.mk (hbox); have n3_ := Aside0.mk ((by rw [hg]; exact (below_size (by repeat (first | (with_reducible first | exact HB.out | apply below_alloc | apply pw_below_drewN | apply below_drew1) | exact HB.out))) : w.heap.size ≤ gb211)); have n4_ := Aside0.mk ((by rw [hg]; exact (below_size (by repeat (first | (with_reducible first | exact HB.out | apply below_alloc | apply pw_below_drewN | apply below_drew1) | exact HB.out))) : w.heap.size ≤ gb211)); clear HO208; clear HB; have HO208 := n0_; have HB := n1_; have BK211 := n2_; have GW211 := n3_; have GE211 := n4_; clear n0_ n1_ n2_ n3_ n4_; clear hb hbox hg; obtain ⟨Ao13, co13, eo13⟩ := Kd.V_slice HO208.out; subst eo13; have hcz14_0 : w12.cell? ⟨gb211, 0, none⟩ = some (.slice none 0 0) := (blk_cell BK211.out 0).trans rfl; have hcz14_1 : w12.cell? ⟨gb211, 1, none⟩ = some (.int .i64 0) := (blk_cell BK211.out 1).trans rfl; have hfz14_0 := blk_frozen BK211.out 0; have hfz14_1 := blk_frozen BK211.out 1))
    go_ret2
    exact ⟨by first | rfl | (simp [errW_none, errW_some] <;> rfl) | (simp [*, errW_none, errW_some] <;> rfl), by repeat (first | (with_reducible first | exact HB.out | apply below_alloc | apply pw_below_drewN | apply below_drew1 | refine below_set ?_ GE211.out) | exact HB.out)⟩

/-! ### undercroftlaw08_BuddyOrders: function 5 -/
def undercroftlaw08_BuddyOrders.l0 : Nat → List Int → Int → Int → Int → Int → Option (Bool)
  | 0, _, _, _, _, _ => none
  | k + 1, x5, x7, x8, x9, x10 => if x10 < (x5.length : Int) then (if 0 ≤ x10 then (undercroftlaw08_BuddyOrders.l0 k x5 x7 x8 (wrap64 (x9 + (shl .i64 (rd x5 x10) x10))) (wrap64 (x10 + 1))) else (none)) else (if x8 = 0 then (if (x5.length : Int) = 7 then (some (x9 == x7)) else (some false)) else (some false))
def undercroftlaw08_BuddyOrders.f (k : Nat) (l0 : List Int) (a1 : Int) : Option (Bool) := (undercroftlaw08_alive.f k).bind fun t213 => (if t213 = true then ((buddy_Orders.f k l0 a1).bind fun bt214 => ((buddy_Free.f k l0 a1).bind fun bt218 => (if bt214.2 = 0 then (undercroftlaw08_BuddyOrders.l0 k bt214.1 bt218.1 bt218.2 0 0) else (if bt218.2 = bt214.2 then (some ((bt214.1.length : Int) == 0)) else (some false))))) else (some false))
theorem undercroftlaw08_BuddyOrders.mono_l : ∀ k, (∀ y0 y1 y2 y3 y4, LeO (undercroftlaw08_BuddyOrders.l0 k y0 y1 y2 y3 y4) (undercroftlaw08_BuddyOrders.l0 (k + 1) y0 y1 y2 y3 y4))
  | 0 => fun _ _ _ _ _ r h => by simp [undercroftlaw08_BuddyOrders.l0] at h
  | k + 1 => by
    have ih0 := undercroftlaw08_BuddyOrders.mono_l k
    · intro y0 y1 y2 y3 y4
      unfold undercroftlaw08_BuddyOrders.l0
      repeat' first
      | (with_reducible exact ih0 _ _ _ _ _)
      | (with_reducible exact buddy_Free.mono _ _ _)
      | (with_reducible exact buddy_Orders.mono _ _ _)
      | (with_reducible exact undercroftlaw08_alive.mono _)
      | (with_reducible exact LeO.refl _)
      | (with_reducible exact LeO.none _)
      | (with_reducible refine LeO.ite ?_ ?_)
      | (with_reducible refine LeO.bind ?_ (fun _ => ?_))
      | exact ih0 _ _ _ _ _
      | exact buddy_Free.mono _ _ _
      | exact buddy_Orders.mono _ _ _
      | exact undercroftlaw08_alive.mono _
      | exact LeO.none _
      | refine LeO.ite ?_ ?_
      | refine LeO.bind ?_ (fun _ => ?_)
theorem undercroftlaw08_BuddyOrders.mono : ∀ a0 a1 k, LeO (undercroftlaw08_BuddyOrders.f k a0 a1) (undercroftlaw08_BuddyOrders.f (k + 1) a0 a1) := by
  intro a0 a1 k
  have ih0 := undercroftlaw08_BuddyOrders.mono_l k
  unfold undercroftlaw08_BuddyOrders.f
  repeat' first
      | (with_reducible exact ih0 _ _ _ _ _)
      | (with_reducible exact buddy_Free.mono _ _ _)
      | (with_reducible exact buddy_Orders.mono _ _ _)
      | (with_reducible exact undercroftlaw08_alive.mono _)
      | (with_reducible exact LeO.refl _)
      | (with_reducible exact LeO.none _)
      | (with_reducible refine LeO.ite ?_ ?_)
      | (with_reducible refine LeO.bind ?_ (fun _ => ?_))
      | exact ih0 _ _ _ _ _
      | exact buddy_Free.mono _ _ _
      | exact buddy_Orders.mono _ _ _
      | exact undercroftlaw08_alive.mono _
      | exact LeO.none _
      | refine LeO.ite ?_ ?_
      | refine LeO.bind ?_ (fun _ => ?_)
set_option maxHeartbeats 8000000 in
set_option maxRecDepth 100000 in
theorem undercroftlaw08_BuddyOrders.calls (k : Nat) (A0 : Option Addr) (c0 : Nat) (l0 : List Int) (a1 : Int) (r : Bool) (w : World) (hr0 : Kd.C (Kd.int .u8) w A0 l0.length l0) (hc0 : l0.length ≤ c0) (h : undercroftlaw08_BuddyOrders.f k l0 a1 = some r) (hT : r = true) :
    Calls Try.prog 5 #[.slice A0 l0.length c0, .int .i64 a1] w fun e w' => e = .returned (.bool r) ∧ Below w.heap.size w w' := by
  have HR0 := Aside0.mk hr0
  have HC0 := Aside0.mk hc0
  clear hr0 hc0
  have HB := Aside0.mk (Below.refl w.heap.size w)
  have H : ((undercroftlaw08_alive.f k).bind fun t213 => (if t213 = true then ((buddy_Orders.f k l0 a1).bind fun bt214 => ((buddy_Free.f k l0 a1).bind fun bt218 => (if bt214.2 = 0 then (undercroftlaw08_BuddyOrders.l0 k bt214.1 bt218.1 bt218.2 0 0) else (if bt218.2 = bt214.2 then (some ((bt214.1.length : Int) == 0)) else (some false))))) else (some false))) = some r := h
  clear h
  replace H := Option.bind_eq_some_iff.mp H
  obtain ⟨t213, A30, H⟩ := H
  replace H : (if t213 = true then ((buddy_Orders.f k l0 a1).bind fun bt214 => ((buddy_Free.f k l0 a1).bind fun bt218 => (if bt214.2 = 0 then (undercroftlaw08_BuddyOrders.l0 k bt214.1 bt218.1 bt218.2 0 0) else (if bt218.2 = bt214.2 then (some ((bt214.1.length : Int) == 0)) else (some false))))) else (some false)) = some r := H
  have A3 := Aside0.mk A30
  clear A30
  by_cases c4 : t213 = true
  · subst c4
    have H1 : ((buddy_Orders.f k l0 a1).bind fun bt214 => ((buddy_Free.f k l0 a1).bind fun bt218 => (if bt214.2 = 0 then (undercroftlaw08_BuddyOrders.l0 k bt214.1 bt218.1 bt218.2 0 0) else (if bt218.2 = bt214.2 then (some ((bt214.1.length : Int) == 0)) else (some false))))) = some r := by rw [if_pos rfl] at H; exact H
    clear H
    have H := H1
    clear H1
    replace H := Option.bind_eq_some_iff.mp H
    obtain ⟨⟨t214, t215⟩, A50, H⟩ := H
    replace H : ((buddy_Free.f k l0 a1).bind fun bt218 => (if t215 = 0 then (undercroftlaw08_BuddyOrders.l0 k t214 bt218.1 bt218.2 0 0) else (if bt218.2 = t215 then (some ((t214.length : Int) == 0)) else (some false)))) = some r := H
    have A5 := Aside0.mk A50
    clear A50
    replace H := Option.bind_eq_some_iff.mp H
    obtain ⟨⟨t218, t219⟩, A60, H⟩ := H
    replace H : (if t215 = 0 then (undercroftlaw08_BuddyOrders.l0 k t214 t218 t219 0 0) else (if t219 = t215 then (some ((t214.length : Int) == 0)) else (some false))) = some r := H
    have A6 := Aside0.mk A60
    clear A60
    by_cases c7 : t215 = 0
    rotate_left
    · rw [if_neg c7] at H
      have c7b0 : (t215 == 0) = false := beq_eq_false_iff_ne.mpr c7
      have c7b1 : (t215 != 0) = true := bne_iff_ne.mpr c7
      by_cases c21 : t219 = t215
      rotate_left
      · rw [if_neg c21] at H
        have c21b0 : (t219 == t215) = false := beq_eq_false_iff_ne.mpr c21
        have c21b1 : (t219 != t215) = true := bne_iff_ne.mpr c21
        exact absurd (Option.some.inj H) (by rw [hT]; decide)
      rw [if_pos c21] at H
      have c21b0 : (t219 == t215) = true := beq_iff_eq.mpr c21
      have c21b1 : (t219 != t215) = false := bne_eq_false_iff_eq.mpr c21
      clear c21
      obtain rfl := Option.some.inj H
      go_enter Try.func5, Try.ntmps5
      go_wp2_with (first | ((with_reducible refine gate_callee (f := 10) rfl ?_); refine goesL_ (some 11) rfl rfl Try.func10 (by kernel_rfl) rfl #[] rfl (by (try simp only [List.map_toArray, List.map_cons, List.map_nil]); first | done | rfl | (simp only [List.length_drop, List.length_take]; rfl)) ?_; (with_reducible refine (undercroftlaw08_alive.calls k  true _ A3.out rfl).mono ?_); rintro e w22 ⟨rfl, hb⟩; refine ⟨_, rfl, ?_⟩; have n0_ := Aside0.mk (below_step (by repeat (first | (with_reducible first | exact HB.out | apply below_alloc | apply pw_below_drewN | apply below_drew1) | exact HB.out)) hb); clear HB; have HB := n0_; clear n0_; (try clear hb); (try clear hb2); (try clear hk); (try clear hi)) | ((with_reducible refine gate_callee (f := 13) rfl ?_); refine goesL_ (some 16) rfl rfl Try.func13 (by kernel_rfl) rfl #[.slice A0 l0.length c0, .int .i64 a1] rfl (by (try simp only [List.map_toArray, List.map_cons, List.map_nil]); first | done | rfl | (simp only [List.length_drop, List.length_take]; rfl)) ?_; (with_reducible refine (buddy_Orders.calls k _ _ l0 a1 t214 t215 _ ?side1 ?side2 A5.out).mono ?_); (case side1 => repeat (first | exact (Kd.C_below HR0.out HB.out) | (with_reducible refine Kd.C_alloc ?_ _) | (with_reducible refine Kd.C_drewN ?_ _) | (with_reducible refine Kd.C_drew ?_))); (case side2 => exact HC0.out); rintro e w23 ⟨v216, rfl, ho0, hb⟩; refine ⟨_, rfl, ?_⟩; have n0_ := Aside0.mk (Kd.R_lower ho0 (below_size (by repeat (first | (with_reducible first | exact HB.out | apply below_alloc | apply pw_below_drewN | apply below_drew1) | exact HB.out)))); have n1_ := Aside0.mk (below_step (by repeat (first | (with_reducible first | exact HB.out | apply below_alloc | apply pw_below_drewN | apply below_drew1) | exact HB.out)) hb); clear HB; have HO217 := n0_; have HB := n1_; clear n0_ n1_; (try clear hb); (try clear hb2); (try clear hk); (try clear hi); (try clear ho0)) | ((with_reducible refine gate_callee (f := 14) rfl ?_); refine goesL_ (some 22) rfl rfl Try.func14 (by kernel_rfl) rfl #[.slice A0 l0.length c0, .int .i64 a1] rfl (by (try simp only [List.map_toArray, List.map_cons, List.map_nil]); first | done | rfl | (simp only [List.length_drop, List.length_take]; rfl)) ?_; (with_reducible refine (buddy_Free.calls k _ _ l0 a1 t218 t219 _ ?side1 ?side2 A6.out).mono ?_); (case side1 => repeat (first | exact (Kd.C_below HR0.out HB.out) | (with_reducible refine Kd.C_alloc ?_ _) | (with_reducible refine Kd.C_drewN ?_ _) | (with_reducible refine Kd.C_drew ?_))); (case side2 => exact HC0.out); rintro e w24 ⟨rfl, hb⟩; refine ⟨_, rfl, ?_⟩; have n0_ := Aside0.mk (Kd.R_below (by (with_reducible repeat (first | apply Kd.R_alloc | apply Kd.R_drewN | apply Kd.R_drew)); exact HO217.out) hb); have n1_ := Aside0.mk (below_step (by repeat (first | (with_reducible first | exact HB.out | apply below_alloc | apply pw_below_drewN | apply below_drew1) | exact HB.out)) hb); clear HO217; clear HB; have HO217 := n0_; have HB := n1_; clear n0_ n1_; (try clear hb); (try clear hb2); (try clear hk); (try clear hi); obtain ⟨Ao25, co25, eo25⟩ := Kd.R_slice HO217.out; subst eo25))
      go_ret
      exact ⟨by first | rfl | (simp [errW_none, errW_some] <;> rfl) | (simp [*, errW_none, errW_some] <;> rfl), by repeat (first | (with_reducible first | exact HB.out | apply below_alloc | apply pw_below_drewN | apply below_drew1) | exact HB.out)⟩
    rw [if_pos c7] at H
    have c7b0 : (t215 == 0) = true := beq_iff_eq.mpr c7
    have c7b1 : (t215 != 0) = false := bne_eq_false_iff_eq.mpr c7
    clear c7
    have H' := Aside0.mk H
    clear H
    go_enter Try.func5, Try.ntmps5
    go_wp2_with (first | ((with_reducible refine gate_callee (f := 10) rfl ?_); refine goesL_ (some 11) rfl rfl Try.func10 (by kernel_rfl) rfl #[] rfl (by (try simp only [List.map_toArray, List.map_cons, List.map_nil]); first | done | rfl | (simp only [List.length_drop, List.length_take]; rfl)) ?_; (with_reducible refine (undercroftlaw08_alive.calls k  true _ A3.out rfl).mono ?_); rintro e w8 ⟨rfl, hb⟩; refine ⟨_, rfl, ?_⟩; have n0_ := Aside0.mk (below_step (by repeat (first | (with_reducible first | exact HB.out | apply below_alloc | apply pw_below_drewN | apply below_drew1) | exact HB.out)) hb); clear HB; have HB := n0_; clear n0_; (try clear hb); (try clear hb2); (try clear hk); (try clear hi)) | ((with_reducible refine gate_callee (f := 13) rfl ?_); refine goesL_ (some 16) rfl rfl Try.func13 (by kernel_rfl) rfl #[.slice A0 l0.length c0, .int .i64 a1] rfl (by (try simp only [List.map_toArray, List.map_cons, List.map_nil]); first | done | rfl | (simp only [List.length_drop, List.length_take]; rfl)) ?_; (with_reducible refine (buddy_Orders.calls k _ _ l0 a1 t214 t215 _ ?side1 ?side2 A5.out).mono ?_); (case side1 => repeat (first | exact (Kd.C_below HR0.out HB.out) | (with_reducible refine Kd.C_alloc ?_ _) | (with_reducible refine Kd.C_drewN ?_ _) | (with_reducible refine Kd.C_drew ?_))); (case side2 => exact HC0.out); rintro e w9 ⟨v216, rfl, ho0, hb⟩; refine ⟨_, rfl, ?_⟩; have n0_ := Aside0.mk (Kd.R_lower ho0 (below_size (by repeat (first | (with_reducible first | exact HB.out | apply below_alloc | apply pw_below_drewN | apply below_drew1) | exact HB.out)))); have n1_ := Aside0.mk (below_step (by repeat (first | (with_reducible first | exact HB.out | apply below_alloc | apply pw_below_drewN | apply below_drew1) | exact HB.out)) hb); clear HB; have HO217 := n0_; have HB := n1_; clear n0_ n1_; (try clear hb); (try clear hb2); (try clear hk); (try clear hi); (try clear ho0)) | ((with_reducible refine gate_callee (f := 14) rfl ?_); refine goesL_ (some 22) rfl rfl Try.func14 (by kernel_rfl) rfl #[.slice A0 l0.length c0, .int .i64 a1] rfl (by (try simp only [List.map_toArray, List.map_cons, List.map_nil]); first | done | rfl | (simp only [List.length_drop, List.length_take]; rfl)) ?_; (with_reducible refine (buddy_Free.calls k _ _ l0 a1 t218 t219 _ ?side1 ?side2 A6.out).mono ?_); (case side1 => repeat (first | exact (Kd.C_below HR0.out HB.out) | (with_reducible refine Kd.C_alloc ?_ _) | (with_reducible refine Kd.C_drewN ?_ _) | (with_reducible refine Kd.C_drew ?_))); (case side2 => exact HC0.out); rintro e w10 ⟨rfl, hb⟩; refine ⟨_, rfl, ?_⟩; have n0_ := Aside0.mk (Kd.R_below (by (with_reducible repeat (first | apply Kd.R_alloc | apply Kd.R_drewN | apply Kd.R_drew)); exact HO217.out) hb); have n1_ := Aside0.mk (below_step (by repeat (first | (with_reducible first | exact HB.out | apply below_alloc | apply pw_below_drewN | apply below_drew1) | exact HB.out)) hb); clear HO217; clear HB; have HO217 := n0_; have HB := n1_; clear n0_ n1_; (try clear hb); (try clear hb2); (try clear hk); (try clear hi)))
    go_loopg [9, 10] k (fun kq v9 v10 w' => ∃ (x9_1 : Int) (x10_1 : Int), v9 = .int .i64 x9_1 ∧ v10 = .int .i64 x10_1 ∧ Aside0 (undercroftlaw08_BuddyOrders.l0 kq t214 t218 t219 x9_1 x10_1 = some r) ∧ Aside0 (kq ≤ k) ∧ Aside0 (Kd.R (Kd.int .i64) 3 w' w.heap.size (fun _ => True) v216 t214) ∧ Aside0 (Below w.heap.size w w'))
    case atStart => exact ⟨(0), (0), (by first | rfl | (simp; done) | (simp [*]; done)), (by first | rfl | (simp; done) | (simp [*]; done)), H', ⟨Nat.le_refl _⟩, ⟨by (with_reducible repeat (first | apply Kd.R_alloc | apply Kd.R_drewN | apply Kd.R_drew)); exact HO217.out⟩, ⟨by repeat (first | (with_reducible first | exact HB.out | apply below_alloc | apply pw_below_drewN | apply below_drew1) | exact HB.out)⟩⟩
    case round =>
      clear H'
      try clear c1
      try clear p2
      try clear c4
      try clear c5
      try clear c7
      try clear c7b0
      try clear c7b1
      try clear c10
      obtain ⟨x9_1, x10_1, rfl, rfl, HA, HK1, HO_5, HB⟩ := hrel
      cases gk with
      | zero => exact absurd HA.out (by simp [undercroftlaw08_BuddyOrders.l0])
      | succ k1 =>
        have H := HA.out
        clear HA
        simp only [undercroftlaw08_BuddyOrders.l0] at H
        by_cases c11 : x10_1 < (t214.length : Int)
        rotate_left
        · rw [if_neg c11] at H
          have c11b0 : decide (x10_1 < (t214.length : Int)) = false := decide_eq_false c11
          clear c11
          by_cases c16 : t219 = 0
          rotate_left
          · rw [if_neg c16] at H
            have c16b0 : (t219 == 0) = false := beq_eq_false_iff_ne.mpr c16
            have c16b1 : (t219 != 0) = true := bne_iff_ne.mpr c16
            exact absurd (Option.some.inj H) (by rw [hT]; decide)
          rw [if_pos c16] at H
          have c16b0 : (t219 == 0) = true := beq_iff_eq.mpr c16
          have c16b1 : (t219 != 0) = false := bne_eq_false_iff_eq.mpr c16
          clear c16
          by_cases c17 : (t214.length : Int) = 7
          rotate_left
          · rw [if_neg c17] at H
            have c17b0 : ((t214.length : Int) == 7) = false := beq_eq_false_iff_ne.mpr c17
            have c17b1 : ((t214.length : Int) != 7) = true := bne_iff_ne.mpr c17
            exact absurd (Option.some.inj H) (by rw [hT]; decide)
          rw [if_pos c17] at H
          have c17b0 : ((t214.length : Int) == 7) = true := beq_iff_eq.mpr c17
          have c17b1 : ((t214.length : Int) != 7) = false := bne_eq_false_iff_eq.mpr c17
          clear c17
          obtain rfl := Option.some.inj H
          obtain ⟨Ao18, co18, eo18⟩ := Kd.R_slice HO_5.out
          subst eo18
          go_wp2
          go_ret
          exact ⟨by first | rfl | (simp [errW_none, errW_some] <;> rfl) | (simp [*, errW_none, errW_some] <;> rfl), by repeat (first | (with_reducible first | exact HB.out | apply below_alloc | apply pw_below_drewN | apply below_drew1) | exact HB.out)⟩
        rw [if_pos c11] at H
        have c11b0 : decide (x10_1 < (t214.length : Int)) = true := decide_eq_true c11
        clear c11
        by_cases c12 : 0 ≤ x10_1
        rotate_left
        · rw [if_neg c12] at H
          exact absurd H (by simp)
        rw [if_pos c12] at H
        have c12b0 : decide (0 ≤ x10_1) = true := decide_eq_true c12
        clear c12
        have c13b0 := eq_true (of_decide_eq_true (by first | (with_reducible assumption) | assumption) : 0 ≤ x10_1)
        obtain ⟨ji14, hji14⟩ : ∃ j_ : Int, (shl .i64 (rd t214 x10_1) x10_1) = j_ := ⟨_, rfl⟩
        replace H : (undercroftlaw08_BuddyOrders.l0 k1 t214 t218 t219 (wrap64 (x9_1 + (ji14))) (wrap64 (x10_1 + 1))) = some r := by first | (rw [hji14] at H; exact H) | (simp only [hji14] at H ⊢; exact H)
        have hji14_ : (IntKind.i64.wrap ((rd t214 x10_1) * 2 ^ min x10_1.toNat 64)) = ji14 := hji14
        have hji14z : x10_1 ≤ 64 → (IntKind.i64.wrap ((rd t214 x10_1) * 2 ^ x10_1.toNat)) = ji14 := shl_small hji14
        have hji14y : (wrap64 ((rd t214 x10_1) * 2 ^ min x10_1.toNat 64)) = ji14 := (i64_w _).symm.trans hji14_
        have hji14x : x10_1 ≤ 64 → (wrap64 ((rd t214 x10_1) * 2 ^ x10_1.toNat)) = ji14 := fun h_ => (i64_w _).symm.trans (hji14z h_)
        have H' := Aside0.mk H
        clear H
        obtain ⟨Ao15, co15, eo15⟩ := Kd.R_slice HO_5.out
        subst eo15
        have p220 : 0 ≤ (x10_1 : Int) := of_decide_eq_true (by first | (with_reducible assumption) | assumption)
        have q220 : x10_1 < (t214.length : Int) := of_decide_eq_true (by first | (with_reducible assumption) | assumption)
        obtain ⟨ad220, e220, hx220_0⟩ := Kd.at_int (Kd.R_reads' HO_5.out).2.2 x10_1 p220 q220
        cases e220
        replace p220 := eq_true p220
        replace q220 := eq_true q220
        go_wp2
        go_roundg k1
        case measure => have := HK1.out; omega
        case rel => exact ⟨(wrap64 (x9_1 + (ji14))), (wrap64 (x10_1 + 1)), (by first | rfl | (simp; done) | (simp only [← hji14] <;> (first | rfl | simp)) | (simp [*]; done)), (by first | rfl | (simp; done) | (simp [*]; done)), H', ⟨by have := HK1.out; omega⟩, ⟨by (with_reducible repeat (first | apply Kd.R_alloc | apply Kd.R_drewN | apply Kd.R_drew)); exact HO_5.out⟩, ⟨by repeat (first | (with_reducible first | exact HB.out | apply below_alloc | apply pw_below_drewN | apply below_drew1) | exact HB.out)⟩⟩
  · replace c4 := Bool.eq_false_iff.mpr c4
    subst c4
    have H1 : (some false) = some r := by rw [if_neg (show ¬ (false = true) by decide)] at H; exact H
    clear H
    have H := H1
    clear H1
    exact absurd (Option.some.inj H) (by rw [hT]; decide)

/-- THE ONE PURE STATEMENT of undercroftlaw08_BuddyOrders: yours. -/
def undercroftlaw08_BuddyOrders.Pure : Prop := ∀ (l0 : List Int) (a1 : Int), l0.length ≤ maxLen → l0.length * 1 ≤ 140737488351232 → (∀ x ∈ l0, (Lit.int .u8 x).wf = true) → (Lit.int .i64 a1).wf = true → ∃ k, undercroftlaw08_BuddyOrders.f k l0 a1 = some true
theorem undercroftlaw08_BuddyOrders.walk (P : undercroftlaw08_BuddyOrders.Pure) (a0 : Option Addr) (len0 cap0 : Nat) (z0 : List Int) (a1 : Int) (w : World) (w0 : (a0 = none ∧ len0 = 0 ∧ cap0 = 0 ∧ z0 = []) ∨ ∃ x, a0 = some x ∧ len0 ≤ cap0 ∧ cap0 ≤ maxLen ∧ z0.length = cap0 ∧ (∀ i, i < z0.length → w.cell? (x.add i) = some (.int .u8 (z0.getD i 0))) ∧ ∀ n ∈ z0, (Lit.int .u8 n).wf = true) (y0 : len0 * 1 ≤ 140737488351232) (w1 : (Lit.int .i64 a1).wf = true) :
    Calls Try.prog 5 #[.slice a0 len0 cap0, .int .i64 a1] w fun e w' => e = .returned (.bool true) ∧ Below w.heap.size w w' := by
  obtain ⟨l0, rfl, hr0, hm0, hw0, hc0⟩ := ReadsInt.ofRowC w0
  obtain ⟨k, h⟩ := P l0 a1 hm0 y0 hw0 w1
  refine (undercroftlaw08_BuddyOrders.calls k _ _ l0 a1 true w (Kd.C_of_reads (d := (0 : Int)) (h1 := fun _ => rfl) hr0) hc0 h rfl).mono ?_
  rintro e w' ⟨rfl, hd⟩
  exact ⟨rfl, hd⟩

end Go.Proofs.Ytlhpejdbmbpmhaa.U
