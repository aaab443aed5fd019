/- Written by uprint.py (ours) for this seat: functions of the translation as Lean functions, and what their calls do. Not trusted: Lean checks it. -/
import Derived.Test.YtiaefbngegmpaaaUx0
import Derived.Test.YtiaefbngegmpaaaUx2
import Derived.Test.YtiaefbngegmpaaaUx5
import Derived.Test.YtiaefbngegmpaaaUx6
namespace Go.Proofs.Ytiaefbngegmpaaa.U
open Go.RowKit Go.Proofs.YtiaefbngegmpaaaW.PrintWords Go.Proofs.YtiaefbngegmpaaaW.PrintLast Go.Proofs.YtiaefbngegmpaaaW.PrintMore
attribute [local go_sem] max2_int min2_int max_two min_two max_three min_three max_four min_four   -- for this text's walks alone
set_option linter.unusedVariables false
set_option linter.unusedSimpArgs false

/-! ### undercroftlaw06_alive: function 8 -/
def undercroftlaw06_alive.f  : Option (Bool) := (geom_Layout.f 128).bind fun bt117 => ((geom_Encode.f bt117.1 bt117.2.1 bt117.2.2.1 bt117.2.2.2.1 bt117.2.2.2.2.1 bt117.2.2.2.2.2.1 bt117.2.2.2.2.2.2.1 bt117.2.2.2.2.2.2.2.1).bind fun bt127 => (if bt117.2.2.2.2.2.2.2.2 = 0 then (if bt117.2.2.2.2.2.1 = 19 then (if bt117.2.2.2.2.2.2.2.1 = 55 then (if bt127.2 = 0 then (if (bt127.1.length : Int) = 256 then (if 0 < (bt127.1.length : Int) then (if (rd bt127.1 0) = 85 then ((geom_Where.f bt117.1 bt117.2.1 bt117.2.2.1 bt117.2.2.2.1 bt117.2.2.2.2.1 bt117.2.2.2.2.2.1 bt117.2.2.2.2.2.2.1 bt117.2.2.2.2.2.2.2.1 54).bind fun t132 => (some (t132 == 5))) else (some false)) else (none)) else (some false)) else (some false)) else (some false)) else (some false)) else (some false)))
set_option maxHeartbeats 8000000 in
set_option maxRecDepth 100000 in
theorem undercroftlaw06_alive.calls  (r : Bool) (w : World) (h : undercroftlaw06_alive.f  = some r) (hT : r = true) :
    Calls Try.prog 8 #[] w fun e w' => e = .returned (.bool r) ∧ Below w.heap.size w w' := by
  have hu24 := Try.underlying24
  have HB := Aside0.mk (Below.refl w.heap.size w)
  have H : ((geom_Layout.f 128).bind fun bt117 => ((geom_Encode.f bt117.1 bt117.2.1 bt117.2.2.1 bt117.2.2.2.1 bt117.2.2.2.2.1 bt117.2.2.2.2.2.1 bt117.2.2.2.2.2.2.1 bt117.2.2.2.2.2.2.2.1).bind fun bt127 => (if bt117.2.2.2.2.2.2.2.2 = 0 then (if bt117.2.2.2.2.2.1 = 19 then (if bt117.2.2.2.2.2.2.2.1 = 55 then (if bt127.2 = 0 then (if (bt127.1.length : Int) = 256 then (if 0 < (bt127.1.length : Int) then (if (rd bt127.1 0) = 85 then ((geom_Where.f bt117.1 bt117.2.1 bt117.2.2.1 bt117.2.2.2.1 bt117.2.2.2.2.1 bt117.2.2.2.2.2.1 bt117.2.2.2.2.2.2.1 bt117.2.2.2.2.2.2.2.1 54).bind fun t132 => (some (t132 == 5))) else (some false)) else (none)) else (some false)) else (some false)) else (some false)) else (some false)) else (some false)))) = some r := h
  clear h
  replace H := Option.bind_eq_some_iff.mp H
  obtain ⟨⟨t117, t118, t119, t120, t121, t122, t123, t124, t125⟩, A10, H⟩ := H
  replace H : ((geom_Encode.f t117 t118 t119 t120 t121 t122 t123 t124).bind fun bt127 => (if t125 = 0 then (if t122 = 19 then (if t124 = 55 then (if bt127.2 = 0 then (if (bt127.1.length : Int) = 256 then (if 0 < (bt127.1.length : Int) then (if (rd bt127.1 0) = 85 then ((geom_Where.f t117 t118 t119 t120 t121 t122 t123 t124 54).bind fun t132 => (some (t132 == 5))) else (some false)) else (none)) else (some false)) else (some false)) else (some false)) else (some false)) else (some false))) = some r := H
  have A1 := Aside0.mk A10
  clear A10
  replace H := Option.bind_eq_some_iff.mp H
  obtain ⟨⟨t127, t130⟩, A20, H⟩ := H
  replace H : (if t125 = 0 then (if t122 = 19 then (if t124 = 55 then (if t130 = 0 then (if (t127.length : Int) = 256 then (if 0 < (t127.length : Int) then (if (rd t127 0) = 85 then ((geom_Where.f t117 t118 t119 t120 t121 t122 t123 t124 54).bind fun t132 => (some (t132 == 5))) else (some false)) else (none)) else (some false)) else (some false)) else (some false)) else (some false)) else (some false)) = some r := H
  have A2 := Aside0.mk A20
  clear A20
  by_cases c3 : t125 = 0
  · rw [if_pos c3] at H
    have c3b0 : (t125 == 0) = true := beq_iff_eq.mpr c3
    have c3b1 : (t125 != 0) = false := bne_eq_false_iff_eq.mpr c3
    clear c3
    by_cases c4 : t122 = 19
    rotate_left
    · rw [if_neg c4] at H
      have c4b0 : (t122 == 19) = false := beq_eq_false_iff_ne.mpr c4
      have c4b1 : (t122 != 19) = true := bne_iff_ne.mpr c4
      exact absurd (Option.some.inj H) (by rw [hT]; decide)
    rw [if_pos c4] at H
    have c4b0 : (t122 == 19) = true := beq_iff_eq.mpr c4
    have c4b1 : (t122 != 19) = false := bne_eq_false_iff_eq.mpr c4
    clear c4
    by_cases c5 : t124 = 55
    rotate_left
    · rw [if_neg c5] at H
      have c5b0 : (t124 == 55) = false := beq_eq_false_iff_ne.mpr c5
      have c5b1 : (t124 != 55) = true := bne_iff_ne.mpr c5
      exact absurd (Option.some.inj H) (by rw [hT]; decide)
    rw [if_pos c5] at H
    have c5b0 : (t124 == 55) = true := beq_iff_eq.mpr c5
    have c5b1 : (t124 != 55) = false := bne_eq_false_iff_eq.mpr c5
    clear c5
    by_cases c6 : t130 = 0
    rotate_left
    · rw [if_neg c6] at H
      have c6b0 : (t130 == 0) = false := beq_eq_false_iff_ne.mpr c6
      have c6b1 : (t130 != 0) = true := bne_iff_ne.mpr c6
      exact absurd (Option.some.inj H) (by rw [hT]; decide)
    rw [if_pos c6] at H
    have c6b0 : (t130 == 0) = true := beq_iff_eq.mpr c6
    have c6b1 : (t130 != 0) = false := bne_eq_false_iff_eq.mpr c6
    clear c6
    by_cases c7 : (t127.length : Int) = 256
    rotate_left
    · rw [if_neg c7] at H
      have c7b0 : ((t127.length : Int) == 256) = false := beq_eq_false_iff_ne.mpr c7
      have c7b1 : ((t127.length : Int) != 256) = true := bne_iff_ne.mpr c7
      exact absurd (Option.some.inj H) (by rw [hT]; decide)
    rw [if_pos c7] at H
    have c7b0 : ((t127.length : Int) == 256) = true := beq_iff_eq.mpr c7
    have c7b1 : ((t127.length : Int) != 256) = false := bne_eq_false_iff_eq.mpr c7
    clear c7
    by_cases c8 : 0 < (t127.length : Int)
    rotate_left
    · rw [if_neg c8] at H
      exact absurd H (by simp)
    rw [if_pos c8] at H
    have c8b0 : decide (0 < (t127.length : Int)) = true := decide_eq_true c8
    have c8b1 : decide (0 < t127.length) = true := decide_eq_true (by omega)
    clear c8
    by_cases c9 : (rd t127 0) = 85
    rotate_left
    · rw [if_neg c9] at H
      have c9b0 : ((rd t127 0) == 85) = false := beq_eq_false_iff_ne.mpr c9
      have c9b1 : ((rd t127 0) != 85) = true := bne_iff_ne.mpr c9
      exact absurd (Option.some.inj H) (by rw [hT]; decide)
    rw [if_pos c9] at H
    have c9b0 : ((rd t127 0) == 85) = true := beq_iff_eq.mpr c9
    have c9b1 : ((rd t127 0) != 85) = false := bne_eq_false_iff_eq.mpr c9
    clear c9
    replace H := Option.bind_eq_some_iff.mp H
    obtain ⟨t132, A100, H⟩ := H
    replace H : (some (t132 == 5)) = some r := H
    have A10 := Aside0.mk A100
    clear A100
    obtain rfl := Option.some.inj H
    go_enter Try.func8, Try.ntmps8
    go_wp2_with (first | ((with_reducible refine gate_callee (f := 9) rfl ?_); refine goesL_ (some 6) rfl rfl Try.func9 (by kernel_rfl) rfl #[.int .i64 128] rfl (by (try simp only [List.map_toArray, List.map_cons, List.map_nil]); first | done | rfl | (simp only [List.length_drop, List.length_take]; rfl)) ?_; (with_reducible refine (geom_Layout.calls 128 t117 t118 t119 t120 t121 t122 t123 t124 t125 _ A1.out).mono ?_); rintro e w11 ⟨rfl, hb⟩; refine ⟨_, rfl, ?_⟩; have n0_ := Aside0.mk (below_step (by repeat (first | (with_reducible first | exact HB.out | apply below_alloc | apply pw_below_drewN | apply below_drew1) | exact HB.out)) hb); clear HB; have HB := n0_; clear n0_; (try clear hb); (try clear hb2); (try clear hk); (try clear hi)) | ((with_reducible refine gate_dst (N := 1) rfl ?_); (try (refine gate_guard (by rfl) ?_; dsimp only)); refine box_event ?hg (N := 1) ?hd (cs := #[.int .i64 0, .int .i64 0, .int .i64 0, .int .i64 0, .int .i64 0, .int .i64 0, .int .i64 0, .int .i64 0]) (t := 24) ?hr ?_; (case hd => rfl); (case hg => rfl); (case hr => go_simp; first | done | rfl); intro gb126 hg w12 hbox hb; have n0_ := Aside0.mk (below_step (by repeat (first | (with_reducible first | exact HB.out | apply below_alloc | apply pw_below_drewN | apply below_drew1) | exact HB.out)) hb); have n1_ := Aside0.mk (hbox); have n2_ := Aside0.mk ((by rw [hg]; exact (below_size (by repeat (first | (with_reducible first | exact HB.out | apply below_alloc | apply pw_below_drewN | apply below_drew1) | exact HB.out))) : w.heap.size ≤ gb126)); have n3_ := Aside0.mk ((by rw [hg]; exact (below_size (by repeat (first | (with_reducible first | exact HB.out | apply below_alloc | apply pw_below_drewN | apply below_drew1) | exact HB.out))) : w.heap.size ≤ gb126)); clear HB; have HB := n0_; have BK126 := n1_; have GW126 := n2_; have GE126 := n3_; clear n0_ n1_ n2_ n3_; clear hb hbox hg; have hcz13_0 : w12.cell? ⟨gb126, 0, none⟩ = some (.int .i64 0) := (blk_cell BK126.out 0).trans rfl; have hcz13_1 : w12.cell? ⟨gb126, 1, none⟩ = some (.int .i64 0) := (blk_cell BK126.out 1).trans rfl; have hcz13_2 : w12.cell? ⟨gb126, 2, none⟩ = some (.int .i64 0) := (blk_cell BK126.out 2).trans rfl; have hcz13_3 : w12.cell? ⟨gb126, 3, none⟩ = some (.int .i64 0) := (blk_cell BK126.out 3).trans rfl; have hcz13_4 : w12.cell? ⟨gb126, 4, none⟩ = some (.int .i64 0) := (blk_cell BK126.out 4).trans rfl; have hcz13_5 : w12.cell? ⟨gb126, 5, none⟩ = some (.int .i64 0) := (blk_cell BK126.out 5).trans rfl; have hcz13_6 : w12.cell? ⟨gb126, 6, none⟩ = some (.int .i64 0) := (blk_cell BK126.out 6).trans rfl; have hcz13_7 : w12.cell? ⟨gb126, 7, none⟩ = some (.int .i64 0) := (blk_cell BK126.out 7).trans rfl; have hfz13_0 := blk_frozen BK126.out 0; have hfz13_1 := blk_frozen BK126.out 1; have hfz13_2 := blk_frozen BK126.out 2; have hfz13_3 := blk_frozen BK126.out 3; have hfz13_4 := blk_frozen BK126.out 4; have hfz13_5 := blk_frozen BK126.out 5; have hfz13_6 := blk_frozen BK126.out 6; have hfz13_7 := blk_frozen BK126.out 7) | ((with_reducible refine gate_callee (f := 10) rfl ?_); refine goesL_ (some 11) rfl rfl Try.func10 (by kernel_rfl) rfl #[.agg #[.int .i64 t117, .int .i64 t118, .int .i64 t119, .int .i64 t120, .int .i64 t121, .int .i64 t122, .int .i64 t123, .int .i64 t124]] rfl (by (try simp only [List.map_toArray, List.map_cons, List.map_nil]); first | done | rfl | (simp only [List.length_drop, List.length_take]; rfl)) ?_; (with_reducible refine (geom_Encode.calls t117 t118 t119 t120 t121 t122 t123 t124 t127 t130 _ A2.out).mono ?_); rintro e w14 ⟨v128, rfl, ho0, hb⟩; refine ⟨_, rfl, ?_⟩; have n0_ := Aside0.mk (Kd.R_lower ho0 (below_size (by repeat (first | (with_reducible first | exact HB.out | apply below_alloc | apply pw_below_drewN | apply below_drew1 | refine below_set ?_ GE126.out) | exact HB.out)))); have n1_ := Aside0.mk (blk_below (g := gb126) (o := .cells #[.int .i64 t117, .int .i64 t118, .int .i64 t119, .int .i64 t120, .int .i64 t121, .int .i64 t122, .int .i64 t123, .int .i64 t124] 24 (0, 0)) (by (with_reducible repeat (first | refine blk_drewN ?_ _ | refine blk_drew ?_ | refine blk_alloc ?_ _)); refine blk_put (cs := #[.int .i64 t117, .int .i64 t118, .int .i64 t119, .int .i64 t120, .int .i64 t121, .int .i64 t122, .int .i64 t123, .int .i64 0]) ?_ 7 _ rfl; (with_reducible repeat (first | refine blk_drewN ?_ _ | refine blk_drew ?_ | refine blk_alloc ?_ _)); refine blk_put (cs := #[.int .i64 t117, .int .i64 t118, .int .i64 t119, .int .i64 t120, .int .i64 t121, .int .i64 t122, .int .i64 0, .int .i64 0]) ?_ 6 _ rfl; (with_reducible repeat (first | refine blk_drewN ?_ _ | refine blk_drew ?_ | refine blk_alloc ?_ _)); refine blk_put (cs := #[.int .i64 t117, .int .i64 t118, .int .i64 t119, .int .i64 t120, .int .i64 t121, .int .i64 0, .int .i64 0, .int .i64 0]) ?_ 5 _ rfl; (with_reducible repeat (first | refine blk_drewN ?_ _ | refine blk_drew ?_ | refine blk_alloc ?_ _)); refine blk_put (cs := #[.int .i64 t117, .int .i64 t118, .int .i64 t119, .int .i64 t120, .int .i64 0, .int .i64 0, .int .i64 0, .int .i64 0]) ?_ 4 _ rfl; (with_reducible repeat (first | refine blk_drewN ?_ _ | refine blk_drew ?_ | refine blk_alloc ?_ _)); refine blk_put (cs := #[.int .i64 t117, .int .i64 t118, .int .i64 t119, .int .i64 0, .int .i64 0, .int .i64 0, .int .i64 0, .int .i64 0]) ?_ 3 _ rfl; (with_reducible repeat (first | refine blk_drewN ?_ _ | refine blk_drew ?_ | refine blk_alloc ?_ _)); refine blk_put (cs := #[.int .i64 t117, .int .i64 t118, .int .i64 0, .int .i64 0, .int .i64 0, .int .i64 0, .int .i64 0, .int .i64 0]) ?_ 2 _ rfl; (with_reducible repeat (first | refine blk_drewN ?_ _ | refine blk_drew ?_ | refine blk_alloc ?_ _)); refine blk_put (cs := #[.int .i64 t117, .int .i64 0, .int .i64 0, .int .i64 0, .int .i64 0, .int .i64 0, .int .i64 0, .int .i64 0]) ?_ 1 _ rfl; (with_reducible repeat (first | refine blk_drewN ?_ _ | refine blk_drew ?_ | refine blk_alloc ?_ _)); refine blk_put (cs := #[.int .i64 0, .int .i64 0, .int .i64 0, .int .i64 0, .int .i64 0, .int .i64 0, .int .i64 0, .int .i64 0]) ?_ 0 _ rfl; (with_reducible repeat (first | refine blk_drewN ?_ _ | refine blk_drew ?_ | refine blk_alloc ?_ _)); exact BK126.out) hb); have n2_ := Aside0.mk (below_step (by repeat (first | (with_reducible first | exact HB.out | apply below_alloc | apply pw_below_drewN | apply below_drew1 | refine below_set ?_ GE126.out) | exact HB.out)) hb); clear BK126; clear HB; have HO129 := n0_; have BK126 := n1_; have HB := n2_; clear n0_ n1_ n2_; (try clear hb); (try clear hb2); (try clear hk); (try clear hi); (try clear ho0); have hcz15_0 : w14.cell? ⟨gb126, 0, none⟩ = some (.int .i64 t117) := (blk_cell BK126.out 0).trans rfl; have hcz15_1 : w14.cell? ⟨gb126, 1, none⟩ = some (.int .i64 t118) := (blk_cell BK126.out 1).trans rfl; have hcz15_2 : w14.cell? ⟨gb126, 2, none⟩ = some (.int .i64 t119) := (blk_cell BK126.out 2).trans rfl; have hcz15_3 : w14.cell? ⟨gb126, 3, none⟩ = some (.int .i64 t120) := (blk_cell BK126.out 3).trans rfl; have hcz15_4 : w14.cell? ⟨gb126, 4, none⟩ = some (.int .i64 t121) := (blk_cell BK126.out 4).trans rfl; have hcz15_5 : w14.cell? ⟨gb126, 5, none⟩ = some (.int .i64 t122) := (blk_cell BK126.out 5).trans rfl; have hcz15_6 : w14.cell? ⟨gb126, 6, none⟩ = some (.int .i64 t123) := (blk_cell BK126.out 6).trans rfl; have hcz15_7 : w14.cell? ⟨gb126, 7, none⟩ = some (.int .i64 t124) := (blk_cell BK126.out 7).trans rfl; have hfz15_0 := blk_frozen BK126.out 0; have hfz15_1 := blk_frozen BK126.out 1; have hfz15_2 := blk_frozen BK126.out 2; have hfz15_3 := blk_frozen BK126.out 3; have hfz15_4 := blk_frozen BK126.out 4; have hfz15_5 := blk_frozen BK126.out 5; have hfz15_6 := blk_frozen BK126.out 6; have hfz15_7 := blk_frozen BK126.out 7; obtain ⟨Ao16, co16, eo16⟩ := Kd.R_slice HO129.out; subst eo16; have p131 : 0 ≤ (0 : Int) := (by omega); have q131 : 0 < (t127.length : Int) := of_decide_eq_true (by first | (with_reducible assumption) | assumption); obtain ⟨ad131, e131, hx131_0⟩ := Kd.at_int (Kd.R_reads' HO129.out).2.2 0 p131 q131; cases e131; have qi131 : (0 < t127.length) = True := eq_true (by omega); (try rw [show ((0 : Int)).toNat = 0 from rfl] at hx131_0); (try rw [Addr.add_zero'] at hx131_0); replace p131 := eq_true p131; replace q131 := eq_true q131) | (go_at_call 15; (with_reducible refine (geom_Where.calls t117 t118 t119 t120 t121 t122 t123 t124 54 t132 _ A10.out).mono ?_); rintro e w17 ⟨rfl, hb⟩; have n0_ := Aside0.mk (Kd.R_below (by (with_reducible repeat (first | apply Kd.R_alloc | apply Kd.R_drewN | apply Kd.R_drew)); exact HO129.out) hb); have n1_ := Aside0.mk (blk_below (g := gb126) (o := .cells #[.int .i64 t117, .int .i64 t118, .int .i64 t119, .int .i64 t120, .int .i64 t121, .int .i64 t122, .int .i64 t123, .int .i64 t124] 24 (0, 0)) (by (with_reducible repeat (first | refine blk_drewN ?_ _ | refine blk_drew ?_ | refine blk_alloc ?_ _)); exact BK126.out) hb); have n2_ := Aside0.mk (below_step (by repeat (first | (with_reducible first | exact HB.out | apply below_alloc | apply pw_below_drewN | apply below_drew1 | refine below_set ?_ GE126.out) | exact HB.out)) hb); clear HO129; clear BK126; clear HB; have HO129 := n0_; have BK126 := n1_; have HB := n2_; clear n0_ n1_ n2_; (try clear hb); (try clear hb2); (try clear hk); (try clear hi)))
    go_ret
    exact ⟨by first | rfl | (simp [errW_none, errW_some] <;> rfl) | (simp [*, errW_none, errW_some] <;> rfl), by repeat (first | (with_reducible first | exact HB.out | apply below_alloc | apply pw_below_drewN | apply below_drew1 | refine below_set ?_ GE126.out) | exact HB.out)⟩
  · rw [if_neg c3] at H
    have c3b0 : (t125 == 0) = false := beq_eq_false_iff_ne.mpr c3
    have c3b1 : (t125 != 0) = true := bne_iff_ne.mpr c3
    exact absurd (Option.some.inj H) (by rw [hT]; decide)

end Go.Proofs.Ytiaefbngegmpaaa.U
