/- Ux12: what this claim uses. Laid by slim.py (ours). -/
import Derived.Test.YtpihpabofgmahaaKUx0
import Derived.Test.YtpihpabofgmahaaKUx7
import Derived.Test.YtpihpabofgmahaaKUx11
namespace Go.Proofs.Ytpihpabofgmahaa.U
open Go.RowKit Go.Proofs.YtpihpabofgmahaaW.PrintWords Go.Proofs.YtpihpabofgmahaaW.PrintLast Go.Proofs.YtpihpabofgmahaaW.PrintMore
attribute [local go_sem] max2_int min2_int max_two min_two max_three min_three max_four min_four
set_option linter.unusedVariables false
set_option linter.unusedSimpArgs false
def undercroftlaw03_alive.f  : Option (Bool) := (record_Encode.f 7 ([] : List (S43)) (([5] : List Int))).bind fun bt110 => ((record_Decode.f bt110.1 7).bind fun bt114 => (if bt110.2 = 0 then (if (bt110.1.length : Int) = 512 then (if 0 < (bt110.1.length : Int) then (if (rd bt110.1 0) = 85 then (if 8 < (bt110.1.length : Int) then (if (rd bt110.1 8) = 7 then (if 260 < (bt110.1.length : Int) then (if (rd bt110.1 260) = 2 then (if bt114.2.2.2.2 = true then (if bt114.2.2.2.1 = 2 then (if (bt114.2.2.1.length : Int) = 1 then (if 0 < (bt114.2.2.1.length : Int) then (some ((rd bt114.2.2.1 0) == 5)) else (none)) else (some false)) else (some false)) else (some false)) else (some false)) else (none)) else (some false)) else (none)) else (some false)) else (none)) else (some false)) else (some false)))
set_option maxHeartbeats 8000000 in
set_option maxRecDepth 100000 in
theorem undercroftlaw03_alive.calls  (r : Bool) (w : World) (h : undercroftlaw03_alive.f  = some r) (hT : r = true) :
    Calls Try.prog 11 #[] w fun e w' => e = .returned (.bool r) ∧ Below w.heap.size w w' := by
  have hu26 := Try.underlying26
  have HB := Aside0.mk (Below.refl w.heap.size w)
  have H : ((record_Encode.f 7 ([] : List (S43)) (([5] : List Int))).bind fun bt110 => ((record_Decode.f bt110.1 7).bind fun bt114 => (if bt110.2 = 0 then (if (bt110.1.length : Int) = 512 then (if 0 < (bt110.1.length : Int) then (if (rd bt110.1 0) = 85 then (if 8 < (bt110.1.length : Int) then (if (rd bt110.1 8) = 7 then (if 260 < (bt110.1.length : Int) then (if (rd bt110.1 260) = 2 then (if bt114.2.2.2.2 = true then (if bt114.2.2.2.1 = 2 then (if (bt114.2.2.1.length : Int) = 1 then (if 0 < (bt114.2.2.1.length : Int) then (some ((rd bt114.2.2.1 0) == 5)) else (none)) else (some false)) else (some false)) else (some false)) else (some false)) else (none)) else (some false)) else (none)) else (some false)) else (none)) else (some false)) else (some false)))) = some r := h
  clear h
  obtain ⟨y107, hy107⟩ : ∃ y_ : List Int, y_ = (([5] : List Int)) := ⟨_, rfl⟩
  replace H : ((record_Encode.f 7 ([] : List (S43)) y107).bind fun bt110 => ((record_Decode.f bt110.1 7).bind fun bt114 => (if bt110.2 = 0 then (if (bt110.1.length : Int) = 512 then (if 0 < (bt110.1.length : Int) then (if (rd bt110.1 0) = 85 then (if 8 < (bt110.1.length : Int) then (if (rd bt110.1 8) = 7 then (if 260 < (bt110.1.length : Int) then (if (rd bt110.1 260) = 2 then (if bt114.2.2.2.2 = true then (if bt114.2.2.2.1 = 2 then (if (bt114.2.2.1.length : Int) = 1 then (if 0 < (bt114.2.2.1.length : Int) then (some ((rd bt114.2.2.1 0) == 5)) else (none)) else (some false)) else (some false)) else (some false)) else (some false)) else (none)) else (some false)) else (none)) else (some false)) else (none)) else (some false)) else (some false)))) = some r := by first | (rw [hy107]; with_reducible exact H) | (have H2_ := (Option.bind_some _ _).symm.trans H; rw [hy107]; with_reducible exact H2_) | (have H2_ := (Option.bind_some _ _).symm.trans H; with_reducible exact H2_) | with_reducible exact H | (rw [hy107]; exact H) | exact H
  have Ny107 := Aside0.mk hy107
  clear hy107
  replace H := Option.bind_eq_some_iff.mp H
  obtain ⟨⟨t110, t113⟩, A10, H⟩ := H
  replace H : ((record_Decode.f t110 7).bind fun bt114 => (if t113 = 0 then (if (t110.length : Int) = 512 then (if 0 < (t110.length : Int) then (if (rd t110 0) = 85 then (if 8 < (t110.length : Int) then (if (rd t110 8) = 7 then (if 260 < (t110.length : Int) then (if (rd t110 260) = 2 then (if bt114.2.2.2.2 = true then (if bt114.2.2.2.1 = 2 then (if (bt114.2.2.1.length : Int) = 1 then (if 0 < (bt114.2.2.1.length : Int) then (some ((rd bt114.2.2.1 0) == 5)) else (none)) else (some false)) else (some false)) else (some false)) else (some false)) else (none)) else (some false)) else (none)) else (some false)) else (none)) else (some false)) else (some false))) = some r := H
  have A1 := Aside0.mk A10
  clear A10
  replace H := Option.bind_eq_some_iff.mp H
  obtain ⟨⟨t114, t115, t118, t121, t122⟩, A20, H⟩ := H
  replace H : (if t113 = 0 then (if (t110.length : Int) = 512 then (if 0 < (t110.length : Int) then (if (rd t110 0) = 85 then (if 8 < (t110.length : Int) then (if (rd t110 8) = 7 then (if 260 < (t110.length : Int) then (if (rd t110 260) = 2 then (if t122 = true then (if t121 = 2 then (if (t118.length : Int) = 1 then (if 0 < (t118.length : Int) then (some ((rd t118 0) == 5)) else (none)) else (some false)) else (some false)) else (some false)) else (some false)) else (none)) else (some false)) else (none)) else (some false)) else (none)) else (some false)) else (some false)) = some r := H
  have A2 := Aside0.mk A20
  clear A20
  by_cases c3 : t113 = 0
  · rw [if_pos c3] at H
    have c3b0 : (t113 == 0) = true := beq_iff_eq.mpr c3
    have c3b1 : (t113 != 0) = false := bne_eq_false_iff_eq.mpr c3
    clear c3
    by_cases c4 : (t110.length : Int) = 512
    rotate_left
    · rw [if_neg c4] at H
      have c4b0 : ((t110.length : Int) == 512) = false := beq_eq_false_iff_ne.mpr c4
      have c4b1 : ((t110.length : Int) != 512) = true := bne_iff_ne.mpr c4
      exact absurd (Option.some.inj H) (by rw [hT]; decide)
    rw [if_pos c4] at H
    have c4b0 : ((t110.length : Int) == 512) = true := beq_iff_eq.mpr c4
    have c4b1 : ((t110.length : Int) != 512) = false := bne_eq_false_iff_eq.mpr c4
    clear c4
    by_cases c5 : 0 < (t110.length : Int)
    rotate_left
    · rw [if_neg c5] at H
      exact absurd H (by simp)
    rw [if_pos c5] at H
    have c5b0 : decide (0 < (t110.length : Int)) = true := decide_eq_true c5
    have c5b1 : decide (0 < t110.length) = true := decide_eq_true (by omega)
    clear c5
    by_cases c6 : (rd t110 0) = 85
    rotate_left
    · rw [if_neg c6] at H
      have c6b0 : ((rd t110 0) == 85) = false := beq_eq_false_iff_ne.mpr c6
      have c6b1 : ((rd t110 0) != 85) = true := bne_iff_ne.mpr c6
      exact absurd (Option.some.inj H) (by rw [hT]; decide)
    rw [if_pos c6] at H
    have c6b0 : ((rd t110 0) == 85) = true := beq_iff_eq.mpr c6
    have c6b1 : ((rd t110 0) != 85) = false := bne_eq_false_iff_eq.mpr c6
    clear c6
    by_cases c7 : 8 < (t110.length : Int)
    rotate_left
    · rw [if_neg c7] at H
      exact absurd H (by simp)
    rw [if_pos c7] at H
    have c7b0 : decide (8 < (t110.length : Int)) = true := decide_eq_true c7
    have c7b1 : decide (8 < t110.length) = true := decide_eq_true (by omega)
    clear c7
    by_cases c8 : (rd t110 8) = 7
    rotate_left
    · rw [if_neg c8] at H
      have c8b0 : ((rd t110 8) == 7) = false := beq_eq_false_iff_ne.mpr c8
      have c8b1 : ((rd t110 8) != 7) = true := bne_iff_ne.mpr c8
      exact absurd (Option.some.inj H) (by rw [hT]; decide)
    rw [if_pos c8] at H
    have c8b0 : ((rd t110 8) == 7) = true := beq_iff_eq.mpr c8
    have c8b1 : ((rd t110 8) != 7) = false := bne_eq_false_iff_eq.mpr c8
    clear c8
    by_cases c9 : 260 < (t110.length : Int)
    rotate_left
    · rw [if_neg c9] at H
      exact absurd H (by simp)
    rw [if_pos c9] at H
    have c9b0 : decide (260 < (t110.length : Int)) = true := decide_eq_true c9
    have c9b1 : decide (260 < t110.length) = true := decide_eq_true (by omega)
    clear c9
    by_cases c10 : (rd t110 260) = 2
    rotate_left
    · rw [if_neg c10] at H
      have c10b0 : ((rd t110 260) == 2) = false := beq_eq_false_iff_ne.mpr c10
      have c10b1 : ((rd t110 260) != 2) = true := bne_iff_ne.mpr c10
      exact absurd (Option.some.inj H) (by rw [hT]; decide)
    rw [if_pos c10] at H
    have c10b0 : ((rd t110 260) == 2) = true := beq_iff_eq.mpr c10
    have c10b1 : ((rd t110 260) != 2) = false := bne_eq_false_iff_eq.mpr c10
    clear c10
    by_cases c11 : t122 = true
    rotate_left
    · replace c11 := Bool.eq_false_iff.mpr c11
      subst c11
      have H1 : (some false) = some r := by rw [if_neg (show ¬ (false = true) by decide)] at H; exact H
      clear H
      have H := H1
      clear H1
      exact absurd (Option.some.inj H) (by rw [hT]; decide)
    subst c11
    have H1 : (if t121 = 2 then (if (t118.length : Int) = 1 then (if 0 < (t118.length : Int) then (some ((rd t118 0) == 5)) else (none)) else (some false)) else (some false)) = some r := by rw [if_pos rfl] at H; exact H
    clear H
    have H := H1
    clear H1
    by_cases c12 : t121 = 2
    rotate_left
    · rw [if_neg c12] at H
      have c12b0 : (t121 == 2) = false := beq_eq_false_iff_ne.mpr c12
      have c12b1 : (t121 != 2) = true := bne_iff_ne.mpr c12
      exact absurd (Option.some.inj H) (by rw [hT]; decide)
    rw [if_pos c12] at H
    have c12b0 : (t121 == 2) = true := beq_iff_eq.mpr c12
    have c12b1 : (t121 != 2) = false := bne_eq_false_iff_eq.mpr c12
    clear c12
    by_cases c13 : (t118.length : Int) = 1
    rotate_left
    · rw [if_neg c13] at H
      have c13b0 : ((t118.length : Int) == 1) = false := beq_eq_false_iff_ne.mpr c13
      have c13b1 : ((t118.length : Int) != 1) = true := bne_iff_ne.mpr c13
      exact absurd (Option.some.inj H) (by rw [hT]; decide)
    rw [if_pos c13] at H
    have c13b0 : ((t118.length : Int) == 1) = true := beq_iff_eq.mpr c13
    have c13b1 : ((t118.length : Int) != 1) = false := bne_eq_false_iff_eq.mpr c13
    clear c13
    by_cases c14 : 0 < (t118.length : Int)
    rotate_left
    · rw [if_neg c14] at H
      exact absurd H (by simp)
    rw [if_pos c14] at H
    have c14b0 : decide (0 < (t118.length : Int)) = true := decide_eq_true c14
    have c14b1 : decide (0 < t118.length) = true := decide_eq_true (by omega)
    clear c14
    obtain rfl := Option.some.inj H
    go_enter Try.func11, Try.ntmps11
    go_wp2_with (first | ((with_reducible refine gate_dst (N := 7) rfl ?_); (try (refine gate_guard (by rfl) ?_; dsimp only)); refine Kd.R_lit (Kd.int .i64) _ 3 ?hg (N := 7) ?hd (xs := ([5] : List Int)) (inner := [.int .i64 5]) (ok := fun _ => True) (okp := fun _ => True) ?hr ?hp (fun _ hk => hk) trivial (Below.refl _ _) (Nat.le_refl _) (by simp) ?_; (case hd => rfl); (case hg => rfl); (case hr => go_simp; first | done | rfl); (case hp => exact (Reps.one (show Kd.M (Kd.int .i64) _ _ _ 5 [.int .i64 5] from rfl) (Reps.none _ _))); intro v108 w15 ho16 hb hg_ hnew_; clear hg_ hnew_; (first | rw [← Ny107.out] at ho16 | (simp only [Int.reduceToNat] at ho16; rw [← Ny107.out] at ho16)); have n0_ := Aside0.mk (Kd.R_lower ho16 (below_size (by repeat (first | (with_reducible first | exact HB.out | apply below_alloc | apply pw_below_drewN | apply below_drew1) | exact HB.out)))); have n1_ := Aside0.mk (below_step (by repeat (first | (with_reducible first | exact HB.out | apply below_alloc | apply pw_below_drewN | apply below_drew1) | exact HB.out)) hb); clear HB; have HO109 := n0_; have HB := n1_; clear n0_ n1_; clear hb ho16; obtain ⟨Ao17, co17, eo17⟩ := Kd.R_slice HO109.out; subst eo17) | ((with_reducible refine gate_callee (f := 13) rfl ?_); refine goesL_ (some 9) rfl rfl Try.func13 (by kernel_rfl) rfl #[.agg #[.int .u64 7, .slice none 0 0, .slice Ao17 y107.length co17]] rfl (by (try simp only [List.map_toArray, List.map_cons, List.map_nil]); first | done | rfl | (simp only [List.length_drop, List.length_take]; rfl)) ?_; (refine (record_Encode.calls 7 _ _ ([] : List (S43)) _ _ y107 t110 t113 _ ?side1 ?side2 ?side3 ?side4 A1.out).mono ?_); (case side1 => exact Kd.C_nil _ _); (case side2 => exact Nat.le_refl _); (case side3 => repeat (first | exact (Kd.R_reads' HO109.out).2.2 | (with_reducible refine Kd.C_alloc ?_ _) | (with_reducible refine Kd.C_drewN ?_ _) | (with_reducible refine Kd.C_drew ?_))); (case side4 => exact (Kd.R_reads' HO109.out).2.1); rintro e w18 ⟨v111, rfl, ho0, hb⟩; refine ⟨_, rfl, ?_⟩; have n0_ := Aside0.mk (Kd.R_below (by (with_reducible repeat (first | apply Kd.R_alloc | apply Kd.R_drewN | apply Kd.R_drew)); exact HO109.out) hb); have n1_ := Aside0.mk (Kd.R_lower ho0 (below_size (by repeat (first | (with_reducible first | exact HB.out | apply below_alloc | apply pw_below_drewN | apply below_drew1) | exact HB.out)))); have n2_ := Aside0.mk (below_step (by repeat (first | (with_reducible first | exact HB.out | apply below_alloc | apply pw_below_drewN | apply below_drew1) | exact HB.out)) hb); clear HO109; clear HB; have HO109 := n0_; have HO112 := n1_; have HB := n2_; clear n0_ n1_ n2_; (try clear hb); (try clear hb2); (try clear hk); (try clear hi); (try clear ho0); obtain ⟨Ao19, co19, eo19⟩ := Kd.R_slice HO112.out; subst eo19) | ((with_reducible refine gate_callee (f := 16) rfl ?_); refine goesL_ (some 14) rfl rfl Try.func16 (by kernel_rfl) rfl #[.slice Ao19 t110.length co19, .int .u64 7] rfl (by (try simp only [List.map_toArray, List.map_cons, List.map_nil]); first | done | rfl | (simp only [List.length_drop, List.length_take]; rfl)) ?_; (with_reducible refine (record_Decode.calls _ _ t110 7 t114 t115 t118 t121 true _ ?side1 ?side2 A2.out).mono ?_); (case side1 => repeat (first | exact (Kd.R_reads' HO112.out).2.2 | (with_reducible refine Kd.C_alloc ?_ _) | (with_reducible refine Kd.C_drewN ?_ _) | (with_reducible refine Kd.C_drew ?_))); (case side2 => exact (Kd.R_reads' HO112.out).2.1); rintro e w20 ⟨v116, v119, rfl, ho0, ho1, hb⟩; refine ⟨_, rfl, ?_⟩; have n0_ := Aside0.mk (Kd.R_elder' (by (with_reducible repeat (first | apply Kd.R_alloc | apply Kd.R_drewN | apply Kd.R_drew)); exact HO109.out) (Kd.R_base ho1) hb); have n1_ := Aside0.mk (Kd.R_below (by (with_reducible repeat (first | apply Kd.R_alloc | apply Kd.R_drewN | apply Kd.R_drew)); exact HO112.out) hb); have n2_ := Aside0.mk (Kd.S_lower (Kd.S_new' ho0 (Kd.R_lt (by (with_reducible repeat (first | apply Kd.R_alloc | apply Kd.R_drewN | apply Kd.R_drew)); exact HO112.out))) (below_size (by repeat (first | (with_reducible first | exact HB.out | apply below_alloc | apply pw_below_drewN | apply below_drew1) | exact HB.out)))); have n3_ := Aside0.mk (Kd.R_lower (Kd.R_new' ho1 (Kd.R_lt (by (with_reducible repeat (first | apply Kd.R_alloc | apply Kd.R_drewN | apply Kd.R_drew)); exact HO109.out))) (below_size (by repeat (first | (with_reducible first | exact HB.out | apply below_alloc | apply pw_below_drewN | apply below_drew1) | exact HB.out)))); have n4_ := Aside0.mk (below_step (by repeat (first | (with_reducible first | exact HB.out | apply below_alloc | apply pw_below_drewN | apply below_drew1) | exact HB.out)) hb); clear HO109; clear HO112; clear HB; have HO109 := n0_; have HO112 := n1_; have HO117 := n2_; have HO120 := n3_; have HB := n4_; clear n0_ n1_ n2_ n3_ n4_; (try clear hb); (try clear hb2); (try clear hk); (try clear hi); (try clear ho0); (try clear ho1)) | ((with_reducible refine gate_dst (N := 3) rfl ?_); (try (refine gate_guard (by rfl) ?_; dsimp only)); refine box_event ?hg (N := 3) ?hd (cs := #[.int .u64 0, .slice none 0 0, .slice none 0 0]) (t := 26) ?hr ?_; (case hd => rfl); (case hg => rfl); (case hr => go_simp; first | done | rfl); intro gb123 hg w21 hbox hb; have n0_ := Aside0.mk (Kd.R_below (by (with_reducible repeat (first | apply Kd.R_alloc | apply Kd.R_drewN | apply Kd.R_drew)); exact HO109.out) hb); have n1_ := Aside0.mk (Kd.R_below (by (with_reducible repeat (first | apply Kd.R_alloc | apply Kd.R_drewN | apply Kd.R_drew)); exact HO112.out) hb); have n2_ := Aside0.mk (Kd.S_below (by (with_reducible repeat (first | apply Kd.S_alloc | apply Kd.S_drewN | apply Kd.S_drew)); exact HO117.out) hb); have n3_ := Aside0.mk (Kd.R_below (by (with_reducible repeat (first | apply Kd.R_alloc | apply Kd.R_drewN | apply Kd.R_drew)); exact HO120.out) hb); have n4_ := Aside0.mk (below_step (by repeat (first | (with_reducible first | exact HB.out | apply below_alloc | apply pw_below_drewN | apply below_drew1) | exact HB.out)) hb); have n5_ := Aside0.mk (hbox); have n6_ := Aside0.mk ((by rw [hg]; exact (below_size (by repeat (first | (with_reducible first | exact HB.out | apply below_alloc | apply pw_below_drewN | apply below_drew1) | exact HB.out))) : w.heap.size ≤ gb123)); have n7_ := Aside0.mk ((by rw [hg]; exact (below_size (by repeat (first | (with_reducible first | exact HB.out | apply below_alloc | apply pw_below_drewN | apply below_drew1) | exact HB.out))) : w.heap.size ≤ gb123)); clear HO109; clear HO112; clear HO117; clear HO120; clear HB; have HO109 := n0_; have HO112 := n1_; have HO117 := n2_; have HO120 := n3_; have HB := n4_; have BK123 := n5_; have GW123 := n6_; have GE123 := n7_; clear n0_ n1_ n2_ n3_ n4_ n5_ n6_ n7_; clear hb hbox hg; have hcz22_0 : w21.cell? ⟨gb123, 0, none⟩ = some (.int .u64 0) := (blk_cell BK123.out 0).trans rfl; have hcz22_1 : w21.cell? ⟨gb123, 1, none⟩ = some (.slice none 0 0) := (blk_cell BK123.out 1).trans rfl; have hcz22_2 : w21.cell? ⟨gb123, 2, none⟩ = some (.slice none 0 0) := (blk_cell BK123.out 2).trans rfl; have hfz22_0 := blk_frozen BK123.out 0; have hfz22_1 := blk_frozen BK123.out 1; have hfz22_2 := blk_frozen BK123.out 2; obtain ⟨Ao23, co23, eo23⟩ := Kd.S_slice HO117.out; subst eo23; obtain ⟨Ao24, co24, eo24⟩ := Kd.R_slice HO120.out; subst eo24; have p124 : 0 ≤ (0 : Int) := (by omega); have q124 : 0 < (t110.length : Int) := of_decide_eq_true (by first | (with_reducible assumption) | assumption); obtain ⟨ad124, e124, hx124_0⟩ := Kd.at_int (Kd.R_reads' HO112.out).2.2 0 p124 q124; cases e124; have qi124 : (0 < t110.length) = True := eq_true (by omega); (try rw [show ((0 : Int)).toNat = 0 from rfl] at hx124_0); (try rw [Addr.add_zero'] at hx124_0); have hn124_0 : ad124.block ≠ gb123 := Kd.own_blk (Kd.R_ne HO112.out BK123.out (by decide)); have hn124_1 : ad124.block ≠ gb123 := Kd.own_blk (Kd.R_ne HO112.out BK123.out (by decide)); have hn124_2 : ad124.block ≠ gb123 := Kd.own_blk (Kd.R_ne HO112.out BK123.out (by decide)); replace hx124_0 := (cell_far (p := ⟨gb123, 0, none⟩) (by first | (rw [add_block]; exact hn124_0) | (show (Addr.add _ _).block ≠ _; rw [add_block]; exact hn124_0) | exact hn124_0) (.int .u64 t114)).trans hx124_0; replace hx124_0 := (cell_far (p := ⟨gb123, 1, none⟩) (by first | (rw [add_block]; exact hn124_1) | (show (Addr.add _ _).block ≠ _; rw [add_block]; exact hn124_1) | exact hn124_1) (.slice Ao23 t115.length co23)).trans hx124_0; replace hx124_0 := (cell_far (p := ⟨gb123, 2, none⟩) (by first | (rw [add_block]; exact hn124_2) | (show (Addr.add _ _).block ≠ _; rw [add_block]; exact hn124_2) | exact hn124_2) (.slice Ao24 t118.length co24)).trans hx124_0; clear hn124_0; clear hn124_1; clear hn124_2; replace p124 := eq_true p124; replace q124 := eq_true q124; have p125 : 0 ≤ (8 : Int) := (by omega); have q125 : 8 < (t110.length : Int) := of_decide_eq_true (by first | (with_reducible assumption) | assumption); obtain ⟨ad125, e125, hx125_0⟩ := Kd.at_int (Kd.R_reads' HO112.out).2.2 8 p125 q125; obtain rfl : ad124 = ad125 := (by injection e125); (try simp only [show (8 : Int).toNat = 8 from rfl, Nat.reduceMul, Nat.reduceEqDiff, Go.Addr.add, ↓reduceIte] at hx125_0); have qi125 : (8 < t110.length) = True := eq_true (by omega); (try rw [show ((8 : Int)).toNat = 8 from rfl] at hx125_0); have hn125_0 : ad124.block ≠ gb123 := Kd.own_blk (Kd.R_ne HO112.out BK123.out (by decide)); have hn125_1 : ad124.block ≠ gb123 := Kd.own_blk (Kd.R_ne HO112.out BK123.out (by decide)); have hn125_2 : ad124.block ≠ gb123 := Kd.own_blk (Kd.R_ne HO112.out BK123.out (by decide)); replace hx125_0 := (cell_far (p := ⟨gb123, 0, none⟩) (by first | (rw [add_block]; exact hn125_0) | (show (Addr.add _ _).block ≠ _; rw [add_block]; exact hn125_0) | exact hn125_0) (.int .u64 t114)).trans hx125_0; replace hx125_0 := (cell_far (p := ⟨gb123, 1, none⟩) (by first | (rw [add_block]; exact hn125_1) | (show (Addr.add _ _).block ≠ _; rw [add_block]; exact hn125_1) | exact hn125_1) (.slice Ao23 t115.length co23)).trans hx125_0; replace hx125_0 := (cell_far (p := ⟨gb123, 2, none⟩) (by first | (rw [add_block]; exact hn125_2) | (show (Addr.add _ _).block ≠ _; rw [add_block]; exact hn125_2) | exact hn125_2) (.slice Ao24 t118.length co24)).trans hx125_0; clear hn125_0; clear hn125_1; clear hn125_2; replace p125 := eq_true p125; replace q125 := eq_true q125; have p126 : 0 ≤ (260 : Int) := (by omega); have q126 : 260 < (t110.length : Int) := of_decide_eq_true (by first | (with_reducible assumption) | assumption); obtain ⟨ad126, e126, hx126_0⟩ := Kd.at_int (Kd.R_reads' HO112.out).2.2 260 p126 q126; obtain rfl : ad124 = ad126 := (by injection e126); (try simp only [show (260 : Int).toNat = 260 from rfl, Nat.reduceMul, Nat.reduceEqDiff, Go.Addr.add, ↓reduceIte] at hx126_0); have qi126 : (260 < t110.length) = True := eq_true (by omega); (try rw [show ((260 : Int)).toNat = 260 from rfl] at hx126_0); have hn126_0 : ad124.block ≠ gb123 := Kd.own_blk (Kd.R_ne HO112.out BK123.out (by decide)); have hn126_1 : ad124.block ≠ gb123 := Kd.own_blk (Kd.R_ne HO112.out BK123.out (by decide)); have hn126_2 : ad124.block ≠ gb123 := Kd.own_blk (Kd.R_ne HO112.out BK123.out (by decide)); replace hx126_0 := (cell_far (p := ⟨gb123, 0, none⟩) (by first | (rw [add_block]; exact hn126_0) | (show (Addr.add _ _).block ≠ _; rw [add_block]; exact hn126_0) | exact hn126_0) (.int .u64 t114)).trans hx126_0; replace hx126_0 := (cell_far (p := ⟨gb123, 1, none⟩) (by first | (rw [add_block]; exact hn126_1) | (show (Addr.add _ _).block ≠ _; rw [add_block]; exact hn126_1) | exact hn126_1) (.slice Ao23 t115.length co23)).trans hx126_0; replace hx126_0 := (cell_far (p := ⟨gb123, 2, none⟩) (by first | (rw [add_block]; exact hn126_2) | (show (Addr.add _ _).block ≠ _; rw [add_block]; exact hn126_2) | exact hn126_2) (.slice Ao24 t118.length co24)).trans hx126_0; clear hn126_0; clear hn126_1; clear hn126_2; replace p126 := eq_true p126; replace q126 := eq_true q126; have p127 : 0 ≤ (0 : Int) := (by omega); have q127 : 0 < (t118.length : Int) := of_decide_eq_true (by first | (with_reducible assumption) | assumption); obtain ⟨ad127, e127, hx127_0⟩ := Kd.at_int (Kd.R_reads' HO120.out).2.2 0 p127 q127; cases e127; have qi127 : (0 < t118.length) = True := eq_true (by omega); (try rw [show ((0 : Int)).toNat = 0 from rfl] at hx127_0); (try rw [Addr.add_zero'] at hx127_0); have hn127_0 : ad127.block ≠ gb123 := Kd.own_blk (Kd.R_ne HO120.out BK123.out (by decide)); have hn127_1 : ad127.block ≠ gb123 := Kd.own_blk (Kd.R_ne HO120.out BK123.out (by decide)); have hn127_2 : ad127.block ≠ gb123 := Kd.own_blk (Kd.R_ne HO120.out BK123.out (by decide)); replace hx127_0 := (cell_far (p := ⟨gb123, 0, none⟩) (by first | (rw [add_block]; exact hn127_0) | (show (Addr.add _ _).block ≠ _; rw [add_block]; exact hn127_0) | exact hn127_0) (.int .u64 t114)).trans hx127_0; replace hx127_0 := (cell_far (p := ⟨gb123, 1, none⟩) (by first | (rw [add_block]; exact hn127_1) | (show (Addr.add _ _).block ≠ _; rw [add_block]; exact hn127_1) | exact hn127_1) (.slice Ao23 t115.length co23)).trans hx127_0; replace hx127_0 := (cell_far (p := ⟨gb123, 2, none⟩) (by first | (rw [add_block]; exact hn127_2) | (show (Addr.add _ _).block ≠ _; rw [add_block]; exact hn127_2) | exact hn127_2) (.slice (some ad127) t118.length co24)).trans hx127_0; clear hn127_0; clear hn127_1; clear hn127_2; replace p127 := eq_true p127; replace q127 := eq_true q127))
    go_ret
    exact ⟨by first | rfl | (simp [errW_none, errW_some] <;> rfl) | (simp [*, errW_none, errW_some] <;> rfl), by repeat (first | (with_reducible first | exact HB.out | apply below_alloc | apply pw_below_drewN | apply below_drew1 | refine below_set ?_ GE123.out) | exact HB.out)⟩
  · rw [if_neg c3] at H
    have c3b0 : (t113 == 0) = false := beq_eq_false_iff_ne.mpr c3
    have c3b1 : (t113 != 0) = true := bne_iff_ne.mpr c3
    exact absurd (Option.some.inj H) (by rw [hT]; decide)
end Go.Proofs.Ytpihpabofgmahaa.U
