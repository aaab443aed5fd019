/- Written by uprint.py (ours) for this seat: functions of the translation as Lean functions, and what their calls do. Not trusted: Lean checks it. -/
import Derived.Test.YtlhpejdbmbpmhaaUx0
import Derived.Test.YtlhpejdbmbpmhaaUx1
import Derived.Test.YtlhpejdbmbpmhaaUx6
import Derived.Test.YtlhpejdbmbpmhaaUx7
namespace Go.Proofs.Ytlhpejdbmbpmhaa.U
open Go.RowKit Go.Proofs.YtlhpejdbmbpmhaaW.PrintWords Go.Proofs.YtlhpejdbmbpmhaaW.PrintLast Go.Proofs.YtlhpejdbmbpmhaaW.PrintMore
attribute [local go_sem] max2_int min2_int max_two min_two max_three min_three max_four min_four   -- for this text's walks alone
set_option linter.unusedVariables false
set_option linter.unusedSimpArgs false

attribute [local go_sem high] eqA27
/-! ### undercroftlaw08_alive: function 10 -/
def undercroftlaw08_alive.f (k : Nat)  : Option (Bool) := (buddy_Take.f k (([0] : List Int)) 8 3 0).bind fun bt128 => ((buddy_Orders.f k (([7] : List Int)) 8).bind fun bt138 => (if bt128.2.2.2 = 0 then (if (bt128.1.length : Int) = 1 then (if 0 < (bt128.1.length : Int) then (if (rd bt128.1 0) = 7 then (if (bt128.2.1 == 0 && (bt128.2.2.1 == 3)) = true then (if bt138.2 = 0 then (if (bt138.1.length : Int) = 7 then (if 0 < (bt138.1.length : Int) then (if (rd bt138.1 0) = 1 then (if 2 < (bt138.1.length : Int) then (some ((rd bt138.1 2) == 1)) else (none)) else (some false)) else (none)) else (some false)) else (some false)) else (some false)) else (some false)) else (none)) else (some false)) else (some false)))
theorem undercroftlaw08_alive.mono : ∀ k, LeO (undercroftlaw08_alive.f k ) (undercroftlaw08_alive.f (k + 1) ) := by
  intro  k
  unfold undercroftlaw08_alive.f
  repeat' first
      | (with_reducible exact buddy_Orders.mono _ _ _)
      | (with_reducible exact buddy_Take.mono _ _ _ _ _)
      | (with_reducible exact LeO.refl _)
      | (with_reducible exact LeO.none _)
      | (with_reducible refine LeO.ite ?_ ?_)
      | (with_reducible refine LeO.bind ?_ (fun _ => ?_))
      | exact buddy_Orders.mono _ _ _
      | exact buddy_Take.mono _ _ _ _ _
      | exact LeO.none _
      | refine LeO.ite ?_ ?_
      | refine LeO.bind ?_ (fun _ => ?_)
set_option maxHeartbeats 8000000 in
set_option maxRecDepth 100000 in
theorem undercroftlaw08_alive.calls (k : Nat)  (r : Bool) (w : World) (h : undercroftlaw08_alive.f k  = some r) (hT : r = true) :
    Calls Try.prog 10 #[] w fun e w' => e = .returned (.bool r) ∧ Below w.heap.size w w' := by
  have hu27 := Try.underlying27
  have HB := Aside0.mk (Below.refl w.heap.size w)
  have H : ((buddy_Take.f k (([0] : List Int)) 8 3 0).bind fun bt128 => ((buddy_Orders.f k (([7] : List Int)) 8).bind fun bt138 => (if bt128.2.2.2 = 0 then (if (bt128.1.length : Int) = 1 then (if 0 < (bt128.1.length : Int) then (if (rd bt128.1 0) = 7 then (if (bt128.2.1 == 0 && (bt128.2.2.1 == 3)) = true then (if bt138.2 = 0 then (if (bt138.1.length : Int) = 7 then (if 0 < (bt138.1.length : Int) then (if (rd bt138.1 0) = 1 then (if 2 < (bt138.1.length : Int) then (some ((rd bt138.1 2) == 1)) else (none)) else (some false)) else (none)) else (some false)) else (some false)) else (some false)) else (some false)) else (none)) else (some false)) else (some false)))) = some r := h
  clear h
  obtain ⟨y125, hy125⟩ : ∃ y_ : List Int, y_ = (([0] : List Int)) := ⟨_, rfl⟩
  replace H : ((buddy_Take.f k y125 8 3 0).bind fun bt128 => ((buddy_Orders.f k (([7] : List Int)) 8).bind fun bt138 => (if bt128.2.2.2 = 0 then (if (bt128.1.length : Int) = 1 then (if 0 < (bt128.1.length : Int) then (if (rd bt128.1 0) = 7 then (if (bt128.2.1 == 0 && (bt128.2.2.1 == 3)) = true then (if bt138.2 = 0 then (if (bt138.1.length : Int) = 7 then (if 0 < (bt138.1.length : Int) then (if (rd bt138.1 0) = 1 then (if 2 < (bt138.1.length : Int) then (some ((rd bt138.1 2) == 1)) else (none)) else (some false)) else (none)) else (some false)) else (some false)) else (some false)) else (some false)) else (none)) else (some false)) else (some false)))) = some r := by first | (rw [hy125]; with_reducible exact H) | (have H2_ := (Option.bind_some _ _).symm.trans H; rw [hy125]; with_reducible exact H2_) | (have H2_ := (Option.bind_some _ _).symm.trans H; with_reducible exact H2_) | with_reducible exact H | (rw [hy125]; exact H) | exact H
  have Ny125 := Aside0.mk hy125
  clear hy125
  replace H := Option.bind_eq_some_iff.mp H
  obtain ⟨⟨t128, t131, t132, t133⟩, A10, H⟩ := H
  replace H : ((buddy_Orders.f k (([7] : List Int)) 8).bind fun bt138 => (if t133 = 0 then (if (t128.length : Int) = 1 then (if 0 < (t128.length : Int) then (if (rd t128 0) = 7 then (if (t131 == 0 && (t132 == 3)) = true then (if bt138.2 = 0 then (if (bt138.1.length : Int) = 7 then (if 0 < (bt138.1.length : Int) then (if (rd bt138.1 0) = 1 then (if 2 < (bt138.1.length : Int) then (some ((rd bt138.1 2) == 1)) else (none)) else (some false)) else (none)) else (some false)) else (some false)) else (some false)) else (some false)) else (none)) else (some false)) else (some false))) = some r := H
  have A1 := Aside0.mk A10
  clear A10
  obtain ⟨y135, hy135⟩ : ∃ y_ : List Int, y_ = (([7] : List Int)) := ⟨_, rfl⟩
  replace H : ((buddy_Orders.f k y135 8).bind fun bt138 => (if t133 = 0 then (if (t128.length : Int) = 1 then (if 0 < (t128.length : Int) then (if (rd t128 0) = 7 then (if (t131 == 0 && (t132 == 3)) = true then (if bt138.2 = 0 then (if (bt138.1.length : Int) = 7 then (if 0 < (bt138.1.length : Int) then (if (rd bt138.1 0) = 1 then (if 2 < (bt138.1.length : Int) then (some ((rd bt138.1 2) == 1)) else (none)) else (some false)) else (none)) else (some false)) else (some false)) else (some false)) else (some false)) else (none)) else (some false)) else (some false))) = some r := by first | (rw [hy135]; with_reducible exact H) | (have H2_ := (Option.bind_some _ _).symm.trans H; rw [hy135]; with_reducible exact H2_) | (have H2_ := (Option.bind_some _ _).symm.trans H; with_reducible exact H2_) | with_reducible exact H | (rw [hy135]; exact H) | exact H
  have Ny135 := Aside0.mk hy135
  clear hy135
  replace H := Option.bind_eq_some_iff.mp H
  obtain ⟨⟨t138, t139⟩, A20, H⟩ := H
  replace H : (if t133 = 0 then (if (t128.length : Int) = 1 then (if 0 < (t128.length : Int) then (if (rd t128 0) = 7 then (if (t131 == 0 && (t132 == 3)) = true then (if t139 = 0 then (if (t138.length : Int) = 7 then (if 0 < (t138.length : Int) then (if (rd t138 0) = 1 then (if 2 < (t138.length : Int) then (some ((rd t138 2) == 1)) else (none)) else (some false)) else (none)) else (some false)) else (some false)) else (some false)) else (some false)) else (none)) else (some false)) else (some false)) = some r := H
  have A2 := Aside0.mk A20
  clear A20
  by_cases c3 : t133 = 0
  · rw [if_pos c3] at H
    have c3b0 : (t133 == 0) = true := beq_iff_eq.mpr c3
    have c3b1 : (t133 != 0) = false := bne_eq_false_iff_eq.mpr c3
    clear c3
    by_cases c4 : (t128.length : Int) = 1
    rotate_left
    · rw [if_neg c4] at H
      have c4b0 : ((t128.length : Int) == 1) = false := beq_eq_false_iff_ne.mpr c4
      have c4b1 : ((t128.length : Int) != 1) = true := bne_iff_ne.mpr c4
      exact absurd (Option.some.inj H) (by rw [hT]; decide)
    rw [if_pos c4] at H
    have c4b0 : ((t128.length : Int) == 1) = true := beq_iff_eq.mpr c4
    have c4b1 : ((t128.length : Int) != 1) = false := bne_eq_false_iff_eq.mpr c4
    clear c4
    by_cases c5 : 0 < (t128.length : Int)
    rotate_left
    · rw [if_neg c5] at H
      exact absurd H (by simp)
    rw [if_pos c5] at H
    have c5b0 : decide (0 < (t128.length : Int)) = true := decide_eq_true c5
    have c5b1 : decide (0 < t128.length) = true := decide_eq_true (by omega)
    clear c5
    by_cases c6 : (rd t128 0) = 7
    rotate_left
    · rw [if_neg c6] at H
      have c6b0 : ((rd t128 0) == 7) = false := beq_eq_false_iff_ne.mpr c6
      have c6b1 : ((rd t128 0) != 7) = true := bne_iff_ne.mpr c6
      exact absurd (Option.some.inj H) (by rw [hT]; decide)
    rw [if_pos c6] at H
    have c6b0 : ((rd t128 0) == 7) = true := beq_iff_eq.mpr c6
    have c6b1 : ((rd t128 0) != 7) = false := bne_eq_false_iff_eq.mpr c6
    clear c6
    by_cases c7 : (t131 == 0 && (t132 == 3)) = true
    rotate_left
    · rw [if_neg c7] at H
      have c7b0 : (t131 == 0 && (t132 == 3)) = false := by simpa using c7
      (try (have c7b1 : decide (t131 = 0 && (t132 == 3)) = false := by simpa using c7))
      (try (have c7b2 : (t131 == 0 && (t132 == 3)) = false := by simpa using c7))
      (try (have c7b3 : ¬ (t131 = 0 && (t132 == 3)) := by simpa using c7))
      clear c7
      exact absurd (Option.some.inj H) (by rw [hT]; decide)
    rw [if_pos c7] at H
    have c7b0 : (t131 == 0 && (t132 == 3)) = true := c7
    (try (have c7b1 : decide (t131 = 0 && (t132 == 3)) = true := by simpa using c7))
    (try (have c7b2 : (t131 == 0 && (t132 == 3)) = true := by simpa using c7))
    clear c7
    by_cases c8 : t139 = 0
    rotate_left
    · rw [if_neg c8] at H
      have c8b0 : (t139 == 0) = false := beq_eq_false_iff_ne.mpr c8
      have c8b1 : (t139 != 0) = true := bne_iff_ne.mpr c8
      exact absurd (Option.some.inj H) (by rw [hT]; decide)
    rw [if_pos c8] at H
    have c8b0 : (t139 == 0) = true := beq_iff_eq.mpr c8
    have c8b1 : (t139 != 0) = false := bne_eq_false_iff_eq.mpr c8
    clear c8
    by_cases c9 : (t138.length : Int) = 7
    rotate_left
    · rw [if_neg c9] at H
      have c9b0 : ((t138.length : Int) == 7) = false := beq_eq_false_iff_ne.mpr c9
      have c9b1 : ((t138.length : Int) != 7) = true := bne_iff_ne.mpr c9
      exact absurd (Option.some.inj H) (by rw [hT]; decide)
    rw [if_pos c9] at H
    have c9b0 : ((t138.length : Int) == 7) = true := beq_iff_eq.mpr c9
    have c9b1 : ((t138.length : Int) != 7) = false := bne_eq_false_iff_eq.mpr c9
    clear c9
    by_cases c10 : 0 < (t138.length : Int)
    rotate_left
    · rw [if_neg c10] at H
      exact absurd H (by simp)
    rw [if_pos c10] at H
    have c10b0 : decide (0 < (t138.length : Int)) = true := decide_eq_true c10
    have c10b1 : decide (0 < t138.length) = true := decide_eq_true (by omega)
    clear c10
    by_cases c11 : (rd t138 0) = 1
    rotate_left
    · rw [if_neg c11] at H
      have c11b0 : ((rd t138 0) == 1) = false := beq_eq_false_iff_ne.mpr c11
      have c11b1 : ((rd t138 0) != 1) = true := bne_iff_ne.mpr c11
      exact absurd (Option.some.inj H) (by rw [hT]; decide)
    rw [if_pos c11] at H
    have c11b0 : ((rd t138 0) == 1) = true := beq_iff_eq.mpr c11
    have c11b1 : ((rd t138 0) != 1) = false := bne_eq_false_iff_eq.mpr c11
    clear c11
    by_cases c12 : 2 < (t138.length : Int)
    rotate_left
    · rw [if_neg c12] at H
      exact absurd H (by simp)
    rw [if_pos c12] at H
    have c12b0 : decide (2 < (t138.length : Int)) = true := decide_eq_true c12
    have c12b1 : decide (2 < t138.length) = true := decide_eq_true (by omega)
    clear c12
    obtain rfl := Option.some.inj H
    go_enter Try.func10, Try.ntmps10
    go_wp2_with (first | ((with_reducible refine gate_dst (N := 7) rfl ?_); (try (refine gate_guard (by rfl) ?_; dsimp only)); refine Kd.R_lit (Kd.int .u8) _ 5 ?hg (N := 7) ?hd (xs := ([0] : List Int)) (inner := [.int .u8 0]) (ok := fun _ => True) (okp := fun _ => True) ?hr ?hp (fun _ hk => hk) trivial (Below.refl _ _) (Nat.le_refl _) (by simp) ?_; (case hd => rfl); (case hg => rfl); (case hr => go_simp; first | done | rfl); (case hp => exact (Reps.one (show Kd.M (Kd.int .u8) _ _ _ 0 [.int .u8 0] from rfl) (Reps.none _ _))); intro v126 w13 ho14 hb hg_ hnew_; clear hg_ hnew_; (first | rw [← Ny125.out] at ho14 | (simp only [Int.reduceToNat] at ho14; rw [← Ny125.out] at ho14)); have n0_ := Aside0.mk (Kd.R_lower ho14 (below_size (by repeat (first | (with_reducible first | exact HB.out | apply below_alloc | apply pw_below_drewN | apply below_drew1) | exact HB.out)))); have n1_ := Aside0.mk (below_step (by repeat (first | (with_reducible first | exact HB.out | apply below_alloc | apply pw_below_drewN | apply below_drew1) | exact HB.out)) hb); clear HB; have HO127 := n0_; have HB := n1_; clear n0_ n1_; clear hb ho14; obtain ⟨Ao15, co15, eo15⟩ := Kd.R_slice HO127.out; subst eo15) | ((with_reducible refine gate_callee (f := 11) rfl ?_); refine goesL_ (some 8) rfl rfl Try.func11 (by kernel_rfl) rfl #[.slice Ao15 y125.length co15, .int .i64 8, .int .i64 3, .int .i64 0] rfl (by (try simp only [List.map_toArray, List.map_cons, List.map_nil]); first | done | rfl | (simp only [List.length_drop, List.length_take]; rfl)) ?_; (with_reducible refine (buddy_Take.calls k _ _ y125 8 3 0 t128 t131 t132 t133 _ ?side1 ?side2 A1.out).mono ?_); (case side1 => repeat (first | exact (Kd.R_reads' HO127.out).2.2 | (with_reducible refine Kd.C_alloc ?_ _) | (with_reducible refine Kd.C_drewN ?_ _) | (with_reducible refine Kd.C_drew ?_))); (case side2 => exact (Kd.R_reads' HO127.out).2.1); rintro e w16 ⟨v129, rfl, ho0, hb⟩; refine ⟨_, rfl, ?_⟩; have n0_ := Aside0.mk (Kd.R_elder' (by (with_reducible repeat (first | apply Kd.R_alloc | apply Kd.R_drewN | apply Kd.R_drew)); exact HO127.out) (Kd.R_base ho0) hb); have n1_ := Aside0.mk (Kd.R_lower (Kd.R_new' ho0 (Kd.R_lt (by (with_reducible repeat (first | apply Kd.R_alloc | apply Kd.R_drewN | apply Kd.R_drew)); exact HO127.out))) (below_size (by repeat (first | (with_reducible first | exact HB.out | apply below_alloc | apply pw_below_drewN | apply below_drew1) | exact HB.out)))); have n2_ := Aside0.mk (below_step (by repeat (first | (with_reducible first | exact HB.out | apply below_alloc | apply pw_below_drewN | apply below_drew1) | exact HB.out)) hb); clear HO127; clear HB; have HO127 := n0_; have HO130 := n1_; have HB := n2_; clear n0_ n1_ n2_; (try clear hb); (try clear hb2); (try clear hk); (try clear hi); (try clear ho0)) | ((with_reducible refine gate_dst (N := 2) rfl ?_); (try (refine gate_guard (by rfl) ?_; dsimp only)); refine box_event ?hg (N := 2) ?hd (cs := #[.int .i64 0, .int .i64 0]) (t := 27) ?hr ?_; (case hd => rfl); (case hg => rfl); (case hr => go_simp; first | done | rfl); intro gb134 hg w17 hbox hb; have n0_ := Aside0.mk (Kd.R_below (by (with_reducible repeat (first | apply Kd.R_alloc | apply Kd.R_drewN | apply Kd.R_drew)); exact HO127.out) hb); have n1_ := Aside0.mk (Kd.R_below (by (with_reducible repeat (first | apply Kd.R_alloc | apply Kd.R_drewN | apply Kd.R_drew)); exact HO130.out) hb); have n2_ := Aside0.mk (below_step (by repeat (first | (with_reducible first | exact HB.out | apply below_alloc | apply pw_below_drewN | apply below_drew1) | exact HB.out)) hb); have n3_ := Aside0.mk (hbox); have n4_ := Aside0.mk ((by rw [hg]; exact (below_size (by repeat (first | (with_reducible first | exact HB.out | apply below_alloc | apply pw_below_drewN | apply below_drew1) | exact HB.out))) : w.heap.size ≤ gb134)); have n5_ := Aside0.mk ((by rw [hg]; exact (below_size (by repeat (first | (with_reducible first | exact HB.out | apply below_alloc | apply pw_below_drewN | apply below_drew1) | exact HB.out))) : w.heap.size ≤ gb134)); clear HO127; clear HO130; clear HB; have HO127 := n0_; have HO130 := n1_; have HB := n2_; have BK134 := n3_; have GW134 := n4_; have GE134 := n5_; clear n0_ n1_ n2_ n3_ n4_ n5_; clear hb hbox hg; have hcz18_0 : w17.cell? ⟨gb134, 0, none⟩ = some (.int .i64 0) := (blk_cell BK134.out 0).trans rfl; have hcz18_1 : w17.cell? ⟨gb134, 1, none⟩ = some (.int .i64 0) := (blk_cell BK134.out 1).trans rfl; have hfz18_0 := blk_frozen BK134.out 0; have hfz18_1 := blk_frozen BK134.out 1) | ((with_reducible refine gate_dst (N := 13) rfl ?_); (try (refine gate_guard (by rfl) ?_; dsimp only)); refine Kd.R_lit (Kd.int .u8) _ 5 ?hg (N := 13) ?hd (xs := ([7] : List Int)) (inner := [.int .u8 7]) (ok := fun _ => True) (okp := fun _ => True) ?hr ?hp (fun _ hk => hk) trivial (Below.refl _ _) (Nat.le_refl _) (by simp) ?_; (case hd => rfl); (case hg => rfl); (case hr => go_simp; first | done | rfl); (case hp => exact (Reps.one (show Kd.M (Kd.int .u8) _ _ _ 7 [.int .u8 7] from rfl) (Reps.none _ _))); intro v136 w19 ho20 hb hg_ hnew_; clear hg_ hnew_; (first | rw [← Ny135.out] at ho20 | (simp only [Int.reduceToNat] at ho20; rw [← Ny135.out] at ho20)); have n0_ := Aside0.mk (Kd.R_elder' (by (with_reducible repeat (first | apply Kd.R_alloc | apply Kd.R_drewN | apply Kd.R_drew)); exact (Kd.R_mono (Kd.R_far (p := ⟨gb134, 1, none⟩) (Kd.R_far (p := ⟨gb134, 0, none⟩) (Kd.R_types HO127.out BK134.out (by decide)) (fun _ hk => hk.2) (.int .i64 t131)) (fun _ hk => hk.2) (.int .i64 t132)) (fun _ h_ => h_.1))) (Kd.R_base ho20) hb); have n1_ := Aside0.mk (Kd.R_elder' (by (with_reducible repeat (first | apply Kd.R_alloc | apply Kd.R_drewN | apply Kd.R_drew)); exact (Kd.R_mono (Kd.R_far (p := ⟨gb134, 1, none⟩) (Kd.R_far (p := ⟨gb134, 0, none⟩) (Kd.R_types HO130.out BK134.out (by decide)) (fun _ hk => hk.2) (.int .i64 t131)) (fun _ hk => hk.2) (.int .i64 t132)) (fun _ h_ => h_.1))) (Kd.R_base ho20) hb); have n2_ := Aside0.mk (Kd.R_lower (Kd.R_new' (Kd.R_new' ho20 (Kd.R_lt (by (with_reducible repeat (first | apply Kd.R_alloc | apply Kd.R_drewN | apply Kd.R_drew)); exact (Kd.R_mono (Kd.R_far (p := ⟨gb134, 1, none⟩) (Kd.R_far (p := ⟨gb134, 0, none⟩) (Kd.R_types HO127.out BK134.out (by decide)) (fun _ hk => hk.2) (.int .i64 t131)) (fun _ hk => hk.2) (.int .i64 t132)) (fun _ h_ => h_.1))))) (Kd.R_lt (by (with_reducible repeat (first | apply Kd.R_alloc | apply Kd.R_drewN | apply Kd.R_drew)); exact (Kd.R_mono (Kd.R_far (p := ⟨gb134, 1, none⟩) (Kd.R_far (p := ⟨gb134, 0, none⟩) (Kd.R_types HO130.out BK134.out (by decide)) (fun _ hk => hk.2) (.int .i64 t131)) (fun _ hk => hk.2) (.int .i64 t132)) (fun _ h_ => h_.1))))) (below_size (by repeat (first | (with_reducible first | exact HB.out | apply below_alloc | apply pw_below_drewN | apply below_drew1 | refine below_set ?_ GE134.out) | exact HB.out)))); have n3_ := Aside0.mk (blk_below (g := gb134) (o := .cells #[.int .i64 t131, .int .i64 t132] 27 (0, 0)) (by (with_reducible repeat (first | refine blk_drewN ?_ _ | refine blk_drew ?_ | refine blk_alloc ?_ _)); refine blk_put (cs := #[.int .i64 t131, .int .i64 0]) ?_ 1 _ rfl; (with_reducible repeat (first | refine blk_drewN ?_ _ | refine blk_drew ?_ | refine blk_alloc ?_ _)); refine blk_put (cs := #[.int .i64 0, .int .i64 0]) ?_ 0 _ rfl; (with_reducible repeat (first | refine blk_drewN ?_ _ | refine blk_drew ?_ | refine blk_alloc ?_ _)); exact BK134.out) hb); have n4_ := Aside0.mk (below_step (by repeat (first | (with_reducible first | exact HB.out | apply below_alloc | apply pw_below_drewN | apply below_drew1 | refine below_set ?_ GE134.out) | exact HB.out)) hb); clear HO127; clear HO130; clear BK134; clear HB; have HO127 := n0_; have HO130 := n1_; have HO137 := n2_; have BK134 := n3_; have HB := n4_; clear n0_ n1_ n2_ n3_ n4_; clear hb ho20; obtain ⟨Ao21, co21, eo21⟩ := Kd.R_slice HO137.out; subst eo21) | ((with_reducible refine gate_callee (f := 13) rfl ?_); refine goesL_ (some 14) rfl rfl Try.func13 (by kernel_rfl) rfl #[.slice Ao21 y135.length co21, .int .i64 8] rfl (by (try simp only [List.map_toArray, List.map_cons, List.map_nil]); first | done | rfl | (simp only [List.length_drop, List.length_take]; rfl)) ?_; (with_reducible refine (buddy_Orders.calls k _ _ y135 8 t138 t139 _ ?side1 ?side2 A2.out).mono ?_); (case side1 => repeat (first | exact (Kd.R_reads' HO137.out).2.2 | (with_reducible refine Kd.C_alloc ?_ _) | (with_reducible refine Kd.C_drewN ?_ _) | (with_reducible refine Kd.C_drew ?_))); (case side2 => exact (Kd.R_reads' HO137.out).2.1); rintro e w22 ⟨v140, rfl, ho0, hb⟩; refine ⟨_, rfl, ?_⟩; have n0_ := Aside0.mk (Kd.R_below (by (with_reducible repeat (first | apply Kd.R_alloc | apply Kd.R_drewN | apply Kd.R_drew)); exact HO127.out) hb); have n1_ := Aside0.mk (Kd.R_below (by (with_reducible repeat (first | apply Kd.R_alloc | apply Kd.R_drewN | apply Kd.R_drew)); exact HO130.out) hb); have n2_ := Aside0.mk (Kd.R_below (by (with_reducible repeat (first | apply Kd.R_alloc | apply Kd.R_drewN | apply Kd.R_drew)); exact HO137.out) hb); have n3_ := Aside0.mk (Kd.R_lower ho0 (below_size (by repeat (first | (with_reducible first | exact HB.out | apply below_alloc | apply pw_below_drewN | apply below_drew1 | refine below_set ?_ GE134.out) | exact HB.out)))); have n4_ := Aside0.mk (blk_below (g := gb134) (o := .cells #[.int .i64 t131, .int .i64 t132] 27 (0, 0)) (by (with_reducible repeat (first | refine blk_drewN ?_ _ | refine blk_drew ?_ | refine blk_alloc ?_ _)); exact BK134.out) hb); have n5_ := Aside0.mk (below_step (by repeat (first | (with_reducible first | exact HB.out | apply below_alloc | apply pw_below_drewN | apply below_drew1 | refine below_set ?_ GE134.out) | exact HB.out)) hb); clear HO127; clear HO130; clear HO137; clear BK134; clear HB; have HO127 := n0_; have HO130 := n1_; have HO137 := n2_; have HO141 := n3_; have BK134 := n4_; have HB := n5_; clear n0_ n1_ n2_ n3_ n4_ n5_; (try clear hb); (try clear hb2); (try clear hk); (try clear hi); (try clear ho0); obtain ⟨Ao23, co23, eo23⟩ := Kd.R_slice HO130.out; subst eo23; have p142 : 0 ≤ (0 : Int) := (by omega); have q142 : 0 < (t128.length : Int) := of_decide_eq_true (by first | (with_reducible assumption) | assumption); obtain ⟨ad142, e142, hx142_0⟩ := Kd.at_int (Kd.R_reads' HO130.out).2.2 0 p142 q142; cases e142; have qi142 : (0 < t128.length) = True := eq_true (by omega); (try rw [show ((0 : Int)).toNat = 0 from rfl] at hx142_0); (try rw [Addr.add_zero'] at hx142_0); replace p142 := eq_true p142; replace q142 := eq_true q142; have hcz24_0 : w22.cell? ⟨gb134, 0, none⟩ = some (.int .i64 t131) := (blk_cell BK134.out 0).trans rfl; have hcz24_1 : w22.cell? ⟨gb134, 1, none⟩ = some (.int .i64 t132) := (blk_cell BK134.out 1).trans rfl; have hfz24_0 := blk_frozen BK134.out 0; have hfz24_1 := blk_frozen BK134.out 1; obtain ⟨Ao25, co25, eo25⟩ := Kd.R_slice HO141.out; subst eo25; have p143 : 0 ≤ (0 : Int) := (by omega); have q143 : 0 < (t138.length : Int) := of_decide_eq_true (by first | (with_reducible assumption) | assumption); obtain ⟨ad143, e143, hx143_0⟩ := Kd.at_int (Kd.R_reads' HO141.out).2.2 0 p143 q143; cases e143; have qi143 : (0 < t138.length) = True := eq_true (by omega); (try rw [show ((0 : Int)).toNat = 0 from rfl] at hx143_0); (try rw [Addr.add_zero'] at hx143_0); replace p143 := eq_true p143; replace q143 := eq_true q143; have p144 : 0 ≤ (2 : Int) := (by omega); have q144 : 2 < (t138.length : Int) := of_decide_eq_true (by first | (with_reducible assumption) | assumption); obtain ⟨ad144, e144, hx144_0⟩ := Kd.at_int (Kd.R_reads' HO141.out).2.2 2 p144 q144; obtain rfl : ad143 = ad144 := (by injection e144); (try simp only [show (2 : Int).toNat = 2 from rfl, Nat.reduceMul, Nat.reduceEqDiff, Go.Addr.add, ↓reduceIte] at hx144_0); have qi144 : (2 < t138.length) = True := eq_true (by omega); (try rw [show ((2 : Int)).toNat = 2 from rfl] at hx144_0); replace p144 := eq_true p144; replace q144 := eq_true q144))
    go_ret
    exact ⟨by first | rfl | (simp [errW_none, errW_some] <;> rfl) | (simp [*, errW_none, errW_some] <;> rfl), by repeat (first | (with_reducible first | exact HB.out | apply below_alloc | apply pw_below_drewN | apply below_drew1 | refine below_set ?_ GE134.out) | exact HB.out)⟩
  · rw [if_neg c3] at H
    have c3b0 : (t133 == 0) = false := beq_eq_false_iff_ne.mpr c3
    have c3b1 : (t133 != 0) = true := bne_iff_ne.mpr c3
    exact absurd (Option.some.inj H) (by rw [hT]; decide)

/-! ### undercroftref08_pool: function 25 -/
def undercroftref08_pool.f (l0 : List Int) (a1 : Int) : Option (Bool) := if a1 ≥ 0 then (some (decide (a1 ≤ (wrap64 (8 * (l0.length : Int)))))) else (some false)
set_option maxHeartbeats 8000000 in
set_option maxRecDepth 100000 in
theorem undercroftref08_pool.calls (A0 : Option Addr) (c0 : Nat) (l0 : List Int) (a1 : Int) (r : Bool) (w : World) (hr0 : Kd.C (Kd.int .u8) w A0 l0.length l0) (hc0 : l0.length ≤ c0) (h : undercroftref08_pool.f l0 a1 = some r) :
    Calls Try.prog 25 #[.slice A0 l0.length c0, .int .i64 a1] w fun e w' => e = .returned (.bool r) ∧ Drawn0 w w' := by
  have HR0 := Aside0.mk hr0
  have HC0 := Aside0.mk hc0
  clear hr0 hc0
  have H : (if a1 ≥ 0 then (some (decide (a1 ≤ (wrap64 (8 * (l0.length : Int)))))) else (some false)) = some r := h
  clear h
  by_cases c3 : a1 ≥ 0
  · rw [if_pos c3] at H
    have c3b0 : decide (0 ≤ a1) = true := decide_eq_true c3
    clear c3
    obtain rfl := Option.some.inj H
    go_enter Try.func25, Try.ntmps25
    go_wp2
    go_ret
    exact ⟨by first | rfl | (simp; done) | (simp [*]; done), by repeat (first | exact Drawn0.refl _ | apply Drawn0.step)⟩
  · rw [if_neg c3] at H
    have c3b0 : decide (0 ≤ a1) = false := decide_eq_false c3
    clear c3
    obtain rfl := Option.some.inj H
    go_enter Try.func25, Try.ntmps25
    go_wp2
    go_ret
    exact ⟨by first | rfl | (simp; done) | (simp [*]; done), by repeat (first | exact Drawn0.refl _ | apply Drawn0.step)⟩

/-! ### undercroftref07_ends: function 38 -/
def undercroftref07_ends.f (l0 : List Int) (a1 : Int) (a2 : Int) : Option (Int × Int) := some (mx a1 0, mn a2 (wrap64 (8 * (l0.length : Int))))
set_option maxHeartbeats 8000000 in
set_option maxRecDepth 100000 in
theorem undercroftref07_ends.calls (A0 : Option Addr) (c0 : Nat) (l0 : List Int) (a1 : Int) (a2 : Int) (r1 : Int) (r2 : Int) (w : World) (hr0 : Kd.C (Kd.int .u8) w A0 l0.length l0) (hc0 : l0.length ≤ c0) (h : undercroftref07_ends.f l0 a1 a2 = some (r1, r2)) :
    Calls Try.prog 38 #[.slice A0 l0.length c0, .int .i64 a1, .int .i64 a2] w fun e w' => e = .returned (.tuple #[.int .i64 r1, .int .i64 r2]) ∧ Below w.heap.size w w' := by
  have HR0 := Aside0.mk hr0
  have HC0 := Aside0.mk hc0
  clear hr0 hc0
  have HB := Aside0.mk (Below.refl w.heap.size w)
  have H : (some (mx a1 0, mn a2 (wrap64 (8 * (l0.length : Int))))) = some (r1, r2) := h
  clear h
  obtain ⟨ji4, hji4⟩ : ∃ j_ : Int, (mx a1 0) = j_ := ⟨_, rfl⟩
  replace H : (some (ji4, mn a2 (wrap64 (8 * (l0.length : Int))))) = some (r1, r2) := by first | (rw [hji4] at H; exact H) | (simp only [hji4] at H ⊢; exact H)
  (try (have hji4l : 0 ≤ ji4 := by (rw [← hji4]; unfold mx; (repeat' split) <;> omega)))
  (try (have hji4m : 0 ≤ ji4 := by omega))
  have hji4_ : (if a1 < 0 then 0 else a1) = ji4 := hji4
  obtain ⟨ji5, hji5⟩ : ∃ j_ : Int, (mn a2 (wrap64 (8 * (l0.length : Int)))) = j_ := ⟨_, rfl⟩
  replace H : (some (ji4, ji5)) = some (r1, r2) := by first | (rw [hji5] at H; exact H) | (simp only [hji5] at H ⊢; exact H)
  have hji5_ : (if (wrap64 (8 * (l0.length : Int))) < a2 then (wrap64 (8 * (l0.length : Int))) else a2) = ji5 := hji5
  simp only [Option.some.injEq, Prod.mk.injEq] at H
  obtain ⟨rfl, rfl⟩ := H
  go_enter Try.func38, Try.ntmps38
  go_wp2
  go_ret2
  exact ⟨by first | rfl | (simp [errW_none, errW_some] <;> rfl) | (simp only [← hji4, ← hji5]; first | rfl | (simp [errW_none, errW_some] <;> rfl)) | (simp [*, errW_none, errW_some] <;> rfl), by repeat (first | (with_reducible first | exact HB.out | apply below_alloc | apply pw_below_drewN | apply below_drew1) | exact HB.out)⟩

end Go.Proofs.Ytlhpejdbmbpmhaa.U
