/- Written by uprint.py (ours) for this seat: functions of the translation as Lean functions, and what their calls do. Not trusted: Lean checks it. -/
import Derived.Test.YtlieacllpifhkaaUx0
import Derived.Test.YtlieacllpifhkaaUx2
import Derived.Test.YtlieacllpifhkaaUx3
import Derived.Test.YtlieacllpifhkaaUx4
import Derived.Test.YtlieacllpifhkaaUx5
namespace Go.Proofs.Ytlieacllpifhkaa.U
open Go.RowKit Go.Proofs.YtlieacllpifhkaaW.PrintWords Go.Proofs.YtlieacllpifhkaaW.PrintLast Go.Proofs.YtlieacllpifhkaaW.PrintMore
attribute [local go_sem] max2_int min2_int max_two min_two max_three min_three max_four min_four   -- for this text's walks alone
set_option linter.unusedVariables false
set_option linter.unusedSimpArgs false

/-! ### undercroftlaw07_alive: function 9 -/
def undercroftlaw07_alive.f (k : Nat)  : Option (Bool) := (some (([6] : List Int) : List Int)).bind fun y106 => ((bits_Longest.f k y106 0 8).bind fun bt109 => ((bits_Get.f y106 1).bind fun t111 => (if t111 = true then ((bits_Get.f y106 8).bind fun t112 => (if t112 = true then (some false) else ((bits_Count.f k y106 0 8).bind fun t113 => (if t113 = 2 then ((bits_First.f k y106 1 8 false).bind fun t114 => (if t114 = 3 then (if bt109.1 = 3 then (if bt109.2 = 5 then ((bits_Fill.f k y106 6 10 true).bind fun t115 => (some ((strOfNums t115).toList == ([198] : List UInt8)))) else (some false)) else (some false)) else (some false))) else (some false))))) else (some false))))
theorem undercroftlaw07_alive.mono : ∀ k, LeO (undercroftlaw07_alive.f k ) (undercroftlaw07_alive.f (k + 1) ) := by
  intro  k
  unfold undercroftlaw07_alive.f
  repeat' first
      | (with_reducible exact bits_Count.mono _ _ _ _)
      | (with_reducible exact bits_Fill.mono _ _ _ _ _)
      | (with_reducible exact bits_First.mono _ _ _ _ _)
      | (with_reducible exact bits_Longest.mono _ _ _ _)
      | (with_reducible exact LeO.refl _)
      | (with_reducible exact LeO.none _)
      | (with_reducible refine LeO.ite ?_ ?_)
      | (with_reducible refine LeO.bind ?_ (fun _ => ?_))
      | exact bits_Count.mono _ _ _ _
      | exact bits_Fill.mono _ _ _ _ _
      | exact bits_First.mono _ _ _ _ _
      | exact bits_Longest.mono _ _ _ _
      | exact LeO.none _
      | refine LeO.ite ?_ ?_
      | refine LeO.bind ?_ (fun _ => ?_)
set_option maxHeartbeats 8000000 in
set_option maxRecDepth 100000 in
theorem undercroftlaw07_alive.calls (k : Nat)  (r : Bool) (w : World) (h : undercroftlaw07_alive.f k  = some r) (hT : r = true) :
    Calls Try.prog 9 #[] w fun e w' => e = .returned (.bool r) ∧ Below w.heap.size w w' := by
  have HB := Aside0.mk (Below.refl w.heap.size w)
  have H : ((some (([6] : List Int) : List Int)).bind fun y106 => ((bits_Longest.f k y106 0 8).bind fun bt109 => ((bits_Get.f y106 1).bind fun t111 => (if t111 = true then ((bits_Get.f y106 8).bind fun t112 => (if t112 = true then (some false) else ((bits_Count.f k y106 0 8).bind fun t113 => (if t113 = 2 then ((bits_First.f k y106 1 8 false).bind fun t114 => (if t114 = 3 then (if bt109.1 = 3 then (if bt109.2 = 5 then ((bits_Fill.f k y106 6 10 true).bind fun t115 => (some ((strOfNums t115).toList == ([198] : List UInt8)))) else (some false)) else (some false)) else (some false))) else (some false))))) else (some false))))) = some r := h
  clear h
  obtain ⟨y106, hy106⟩ : ∃ y_ : List Int, y_ = (([6] : List Int)) := ⟨_, rfl⟩
  replace H : ((bits_Longest.f k y106 0 8).bind fun bt109 => ((bits_Get.f y106 1).bind fun t111 => (if t111 = true then ((bits_Get.f y106 8).bind fun t112 => (if t112 = true then (some false) else ((bits_Count.f k y106 0 8).bind fun t113 => (if t113 = 2 then ((bits_First.f k y106 1 8 false).bind fun t114 => (if t114 = 3 then (if bt109.1 = 3 then (if bt109.2 = 5 then ((bits_Fill.f k y106 6 10 true).bind fun t115 => (some ((strOfNums t115).toList == ([198] : List UInt8)))) else (some false)) else (some false)) else (some false))) else (some false))))) else (some false)))) = some r := by first | (rw [hy106]; with_reducible exact H) | (have H2_ := (Option.bind_some _ _).symm.trans H; rw [hy106]; with_reducible exact H2_) | (have H2_ := (Option.bind_some _ _).symm.trans H; with_reducible exact H2_) | with_reducible exact H | (rw [hy106]; exact H) | exact H
  have Ny106 := Aside0.mk hy106
  clear hy106
  replace H := Option.bind_eq_some_iff.mp H
  obtain ⟨⟨t109, t110⟩, A10, H⟩ := H
  replace H : ((bits_Get.f y106 1).bind fun t111 => (if t111 = true then ((bits_Get.f y106 8).bind fun t112 => (if t112 = true then (some false) else ((bits_Count.f k y106 0 8).bind fun t113 => (if t113 = 2 then ((bits_First.f k y106 1 8 false).bind fun t114 => (if t114 = 3 then (if t109 = 3 then (if t110 = 5 then ((bits_Fill.f k y106 6 10 true).bind fun t115 => (some ((strOfNums t115).toList == ([198] : List UInt8)))) else (some false)) else (some false)) else (some false))) else (some false))))) else (some false))) = some r := H
  have A1 := Aside0.mk A10
  clear A10
  replace H := Option.bind_eq_some_iff.mp H
  obtain ⟨t111, A20, H⟩ := H
  replace H : (if t111 = true then ((bits_Get.f y106 8).bind fun t112 => (if t112 = true then (some false) else ((bits_Count.f k y106 0 8).bind fun t113 => (if t113 = 2 then ((bits_First.f k y106 1 8 false).bind fun t114 => (if t114 = 3 then (if t109 = 3 then (if t110 = 5 then ((bits_Fill.f k y106 6 10 true).bind fun t115 => (some ((strOfNums t115).toList == ([198] : List UInt8)))) else (some false)) else (some false)) else (some false))) else (some false))))) else (some false)) = some r := H
  have A2 := Aside0.mk A20
  clear A20
  by_cases c3 : t111 = true
  · subst c3
    have H1 : ((bits_Get.f y106 8).bind fun t112 => (if t112 = true then (some false) else ((bits_Count.f k y106 0 8).bind fun t113 => (if t113 = 2 then ((bits_First.f k y106 1 8 false).bind fun t114 => (if t114 = 3 then (if t109 = 3 then (if t110 = 5 then ((bits_Fill.f k y106 6 10 true).bind fun t115 => (some ((strOfNums t115).toList == ([198] : List UInt8)))) else (some false)) else (some false)) else (some false))) else (some false))))) = some r := by rw [if_pos rfl] at H; exact H
    clear H
    have H := H1
    clear H1
    replace H := Option.bind_eq_some_iff.mp H
    obtain ⟨t112, A40, H⟩ := H
    replace H : (if t112 = true then (some false) else ((bits_Count.f k y106 0 8).bind fun t113 => (if t113 = 2 then ((bits_First.f k y106 1 8 false).bind fun t114 => (if t114 = 3 then (if t109 = 3 then (if t110 = 5 then ((bits_Fill.f k y106 6 10 true).bind fun t115 => (some ((strOfNums t115).toList == ([198] : List UInt8)))) else (some false)) else (some false)) else (some false))) else (some false)))) = some r := H
    have A4 := Aside0.mk A40
    clear A40
    by_cases c5 : t112 = true
    · subst c5
      have H1 : (some false) = some r := by rw [if_pos rfl] at H; exact H
      clear H
      have H := H1
      clear H1
      exact absurd (Option.some.inj H) (by rw [hT]; decide)
    replace c5 := Bool.eq_false_iff.mpr c5
    subst c5
    have H1 : ((bits_Count.f k y106 0 8).bind fun t113 => (if t113 = 2 then ((bits_First.f k y106 1 8 false).bind fun t114 => (if t114 = 3 then (if t109 = 3 then (if t110 = 5 then ((bits_Fill.f k y106 6 10 true).bind fun t115 => (some ((strOfNums t115).toList == ([198] : List UInt8)))) else (some false)) else (some false)) else (some false))) else (some false))) = some r := by rw [if_neg (show ¬ (false = true) by decide)] at H; exact H
    clear H
    have H := H1
    clear H1
    replace H := Option.bind_eq_some_iff.mp H
    obtain ⟨t113, A100, H⟩ := H
    replace H : (if t113 = 2 then ((bits_First.f k y106 1 8 false).bind fun t114 => (if t114 = 3 then (if t109 = 3 then (if t110 = 5 then ((bits_Fill.f k y106 6 10 true).bind fun t115 => (some ((strOfNums t115).toList == ([198] : List UInt8)))) else (some false)) else (some false)) else (some false))) else (some false)) = some r := H
    have A10 := Aside0.mk A100
    clear A100
    by_cases c11 : t113 = 2
    rotate_left
    · rw [if_neg c11] at H
      have c11b0 : (t113 == 2) = false := beq_eq_false_iff_ne.mpr c11
      have c11b1 : (t113 != 2) = true := bne_iff_ne.mpr c11
      exact absurd (Option.some.inj H) (by rw [hT]; decide)
    rw [if_pos c11] at H
    have c11b0 : (t113 == 2) = true := beq_iff_eq.mpr c11
    have c11b1 : (t113 != 2) = false := bne_eq_false_iff_eq.mpr c11
    clear c11
    replace H := Option.bind_eq_some_iff.mp H
    obtain ⟨t114, A120, H⟩ := H
    replace H : (if t114 = 3 then (if t109 = 3 then (if t110 = 5 then ((bits_Fill.f k y106 6 10 true).bind fun t115 => (some ((strOfNums t115).toList == ([198] : List UInt8)))) else (some false)) else (some false)) else (some false)) = some r := H
    have A12 := Aside0.mk A120
    clear A120
    by_cases c13 : t114 = 3
    rotate_left
    · rw [if_neg c13] at H
      have c13b0 : (t114 == 3) = false := beq_eq_false_iff_ne.mpr c13
      have c13b1 : (t114 != 3) = true := bne_iff_ne.mpr c13
      exact absurd (Option.some.inj H) (by rw [hT]; decide)
    rw [if_pos c13] at H
    have c13b0 : (t114 == 3) = true := beq_iff_eq.mpr c13
    have c13b1 : (t114 != 3) = false := bne_eq_false_iff_eq.mpr c13
    clear c13
    by_cases c14 : t109 = 3
    rotate_left
    · rw [if_neg c14] at H
      have c14b0 : (t109 == 3) = false := beq_eq_false_iff_ne.mpr c14
      have c14b1 : (t109 != 3) = true := bne_iff_ne.mpr c14
      exact absurd (Option.some.inj H) (by rw [hT]; decide)
    rw [if_pos c14] at H
    have c14b0 : (t109 == 3) = true := beq_iff_eq.mpr c14
    have c14b1 : (t109 != 3) = false := bne_eq_false_iff_eq.mpr c14
    clear c14
    by_cases c15 : t110 = 5
    rotate_left
    · rw [if_neg c15] at H
      have c15b0 : (t110 == 5) = false := beq_eq_false_iff_ne.mpr c15
      have c15b1 : (t110 != 5) = true := bne_iff_ne.mpr c15
      exact absurd (Option.some.inj H) (by rw [hT]; decide)
    rw [if_pos c15] at H
    have c15b0 : (t110 == 5) = true := beq_iff_eq.mpr c15
    have c15b1 : (t110 != 5) = false := bne_eq_false_iff_eq.mpr c15
    clear c15
    replace H := Option.bind_eq_some_iff.mp H
    obtain ⟨t115, A160, H⟩ := H
    replace H : (some ((strOfNums t115).toList == ([198] : List UInt8))) = some r := H
    have A16 := Aside0.mk A160
    clear A160
    obtain rfl := Option.some.inj H
    go_enter Try.func9, Try.ntmps9
    go_wp2_with (first | ((with_reducible refine gate_dst (N := 4) rfl ?_); refine Kd.R_lit (Kd.int .u8) _ 5 ?hg (N := 4) ?hd (xs := ([6] : List Int)) (inner := [.int .u8 6]) (ok := fun _ => True) (okp := fun _ => True) ?hr ?hp (fun _ hk => hk) trivial (Below.refl _ _) (Nat.le_refl _) (by simp) ?_; (case hd => rfl); (case hg => rfl); (case hr => go_simp; first | done | rfl); (case hp => exact (Reps.one (show Kd.M (Kd.int .u8) _ _ _ 6 [.int .u8 6] from rfl) (Reps.none _ _))); intro v107 w17 ho18 hb hg_ hnew_; clear hg_ hnew_; (first | rw [← Ny106.out] at ho18 | (simp only [Int.reduceToNat] at ho18; rw [← Ny106.out] at ho18)); have n0_ := Aside0.mk (Kd.R_lower ho18 (below_size (by repeat (first | (with_reducible first | exact HB.out | apply below_alloc | apply pw_below_drewN | apply below_drew1) | exact HB.out)))); have n1_ := Aside0.mk (below_step (by repeat (first | (with_reducible first | exact HB.out | apply below_alloc | apply pw_below_drewN | apply below_drew1) | exact HB.out)) hb); clear HB; have HO108 := n0_; have HB := n1_; clear n0_ n1_; clear hb ho18; obtain ⟨Ao19, co19, eo19⟩ := Kd.R_slice HO108.out; subst eo19) | ((with_reducible refine gate_callee (f := 10) rfl ?_); refine goesL_ (some 7) rfl rfl Try.func10 (by kernel_rfl) rfl #[.slice Ao19 y106.length co19, .int .i64 0, .int .i64 8] rfl (by (try simp only [List.map_toArray, List.map_cons, List.map_nil]); first | done | rfl | (simp only [List.length_drop, List.length_take]; rfl)) ?_; (with_reducible refine (bits_Longest.calls k _ _ y106 0 8 t109 t110 _ ?side1 ?side2 A1.out).mono ?_); (case side1 => repeat (first | exact (Kd.R_reads' HO108.out).2.2 | (with_reducible refine Kd.C_alloc ?_ _) | (with_reducible refine Kd.C_drewN ?_ _) | (with_reducible refine Kd.C_drew ?_))); (case side2 => exact (Kd.R_reads' HO108.out).2.1); rintro e w20 ⟨rfl, hb⟩; refine ⟨_, rfl, ?_⟩; have n0_ := Aside0.mk (Kd.R_below (by (with_reducible repeat (first | apply Kd.R_alloc | apply Kd.R_drewN | apply Kd.R_drew)); exact HO108.out) hb); have n1_ := Aside0.mk (below_step (by repeat (first | (with_reducible first | exact HB.out | apply below_alloc | apply pw_below_drewN | apply below_drew1) | exact HB.out)) hb); clear HO108; clear HB; have HO108 := n0_; have HB := n1_; clear n0_ n1_; (try clear hb); (try clear hb2); (try clear hk); (try clear hi)) | ((with_reducible refine gate_callee (f := 12) rfl ?_); refine goesL_ (some 11) rfl rfl Try.func12 (by kernel_rfl) rfl #[.slice Ao19 y106.length co19, .int .i64 1] rfl (by (try simp only [List.map_toArray, List.map_cons, List.map_nil]); first | done | rfl | (simp only [List.length_drop, List.length_take]; rfl)) ?_; (with_reducible refine (bits_Get.calls _ _ y106 1 true _ ?side1 ?side2 A2.out).mono ?_); (case side1 => repeat (first | exact (Kd.R_reads' HO108.out).2.2 | (with_reducible refine Kd.C_alloc ?_ _) | (with_reducible refine Kd.C_drewN ?_ _) | (with_reducible refine Kd.C_drew ?_))); (case side2 => exact (Kd.R_reads' HO108.out).2.1); rintro e w' ⟨rfl, ⟨nd, rfl⟩⟩; refine ⟨_, rfl, ?_⟩) | (go_at_call 12; (with_reducible refine (bits_Get.calls _ _ y106 8 false _ ?side1 ?side2 A4.out).mono ?_); (case side1 => repeat (first | exact (Kd.R_reads' HO108.out).2.2 | (with_reducible refine Kd.C_alloc ?_ _) | (with_reducible refine Kd.C_drewN ?_ _) | (with_reducible refine Kd.C_drew ?_))); (case side2 => exact (Kd.R_reads' HO108.out).2.1); rintro e w' ⟨rfl, ⟨nd, rfl⟩⟩) | (go_at_call 14; (with_reducible refine (bits_Count.calls k _ _ y106 0 8 t113 _ ?side1 ?side2 A10.out).mono ?_); (case side1 => repeat (first | exact (Kd.R_reads' HO108.out).2.2 | (with_reducible refine Kd.C_alloc ?_ _) | (with_reducible refine Kd.C_drewN ?_ _) | (with_reducible refine Kd.C_drew ?_))); (case side2 => exact (Kd.R_reads' HO108.out).2.1); rintro e w21 ⟨rfl, hb⟩; have n0_ := Aside0.mk (Kd.R_below (by (with_reducible repeat (first | apply Kd.R_alloc | apply Kd.R_drewN | apply Kd.R_drew)); exact HO108.out) hb); have n1_ := Aside0.mk (below_step (by repeat (first | (with_reducible first | exact HB.out | apply below_alloc | apply pw_below_drewN | apply below_drew1) | exact HB.out)) hb); clear HO108; clear HB; have HO108 := n0_; have HB := n1_; clear n0_ n1_; (try clear hb); (try clear hb2); (try clear hk); (try clear hi)) | (go_at_call 16; (with_reducible refine (bits_First.calls k _ _ y106 1 8 false t114 _ ?side1 ?side2 A12.out).mono ?_); (case side1 => repeat (first | exact (Kd.R_reads' HO108.out).2.2 | (with_reducible refine Kd.C_alloc ?_ _) | (with_reducible refine Kd.C_drewN ?_ _) | (with_reducible refine Kd.C_drew ?_))); (case side2 => exact (Kd.R_reads' HO108.out).2.1); rintro e w22 ⟨rfl, hb⟩; have n0_ := Aside0.mk (Kd.R_below (by (with_reducible repeat (first | apply Kd.R_alloc | apply Kd.R_drewN | apply Kd.R_drew)); exact HO108.out) hb); have n1_ := Aside0.mk (below_step (by repeat (first | (with_reducible first | exact HB.out | apply below_alloc | apply pw_below_drewN | apply below_drew1) | exact HB.out)) hb); clear HO108; clear HB; have HO108 := n0_; have HB := n1_; clear n0_ n1_; (try clear hb); (try clear hb2); (try clear hk); (try clear hi)) | (go_at_call 18; (with_reducible refine (bits_Fill.calls k _ _ y106 6 10 true t115 _ ?side1 ?side2 A16.out).mono ?_); (case side1 => repeat (first | exact (Kd.R_reads' HO108.out).2.2 | (with_reducible refine Kd.C_alloc ?_ _) | (with_reducible refine Kd.C_drewN ?_ _) | (with_reducible refine Kd.C_drew ?_))); (case side2 => exact (Kd.R_reads' HO108.out).2.1); rintro e w23 ⟨v116, rfl, ho0, hb⟩; have n0_ := Aside0.mk (Kd.R_elder' (by (with_reducible repeat (first | apply Kd.R_alloc | apply Kd.R_drewN | apply Kd.R_drew)); exact HO108.out) (Kd.R_base ho0) hb); have n1_ := Aside0.mk (Kd.R_lower (Kd.R_new' ho0 (Kd.R_lt (by (with_reducible repeat (first | apply Kd.R_alloc | apply Kd.R_drewN | apply Kd.R_drew)); exact HO108.out))) (below_size (by repeat (first | (with_reducible first | exact HB.out | apply below_alloc | apply pw_below_drewN | apply below_drew1) | exact HB.out)))); have n2_ := Aside0.mk (below_step (by repeat (first | (with_reducible first | exact HB.out | apply below_alloc | apply pw_below_drewN | apply below_drew1) | exact HB.out)) hb); clear HO108; clear HB; have HO108 := n0_; have HO117 := n1_; have HB := n2_; clear n0_ n1_ n2_; (try clear hb); (try clear hb2); (try clear hk); (try clear hi); (try clear ho0); have hcv24 := own_string (P := Try.prog) Try.underlying22 Try.underlying5 Try.underlying9 (Kd.own_of_R HO117.out); have hcd25 := fun (nd_ : Nat) => own_string (P := Try.prog) Try.underlying22 Try.underlying5 Try.underlying9 (Kd.own_of_R (Kd.R_drewN HO117.out nd_))))
    go_ret
    exact ⟨by first | rfl | (simp [errW_none, errW_some] <;> rfl) | (simp [*, errW_none, errW_some] <;> rfl), by repeat (first | (with_reducible first | exact HB.out | apply below_alloc | apply pw_below_drewN | apply below_drew1) | exact HB.out)⟩
  · replace c3 := Bool.eq_false_iff.mpr c3
    subst c3
    have H1 : (some false) = some r := by rw [if_neg (show ¬ (false = true) by decide)] at H; exact H
    clear H
    have H := H1
    clear H1
    exact absurd (Option.some.inj H) (by rw [hT]; decide)

/-! ### undercroftref07_Get: function 13 -/
def undercroftref07_Get.f (l0 : List Int) (a1 : Int) : Option (Bool) := if a1 ≥ 0 then (if (wrap64 (Int.tdiv a1 8)) < (l0.length : Int) then (if 0 ≤ (wrap64 (Int.tdiv a1 8)) then (if 0 ≤ (Int.tmod a1 8) then (some ((Go.bits .and .u8 (shr .u8 (rd l0 (wrap64 (Int.tdiv a1 8))) (Int.tmod a1 8)) 1) == 1)) else (none)) else (none)) else (some false)) else (some false)
set_option maxHeartbeats 8000000 in
set_option maxRecDepth 100000 in
theorem undercroftref07_Get.calls (A0 : Option Addr) (c0 : Nat) (l0 : List Int) (a1 : Int) (r : Bool) (w : World) (hr0 : Kd.C (Kd.int .u8) w A0 l0.length l0) (hc0 : l0.length ≤ c0) (h : undercroftref07_Get.f l0 a1 = some r) :
    Calls Try.prog 13 #[.slice A0 l0.length c0, .int .i64 a1] w fun e w' => e = .returned (.bool r) ∧ Drawn0 w w' := by
  have HR0 := Aside0.mk hr0
  have HC0 := Aside0.mk hc0
  clear hr0 hc0
  have H : (if a1 ≥ 0 then (if (wrap64 (Int.tdiv a1 8)) < (l0.length : Int) then (if 0 ≤ (wrap64 (Int.tdiv a1 8)) then (if 0 ≤ (Int.tmod a1 8) then (some ((Go.bits .and .u8 (shr .u8 (rd l0 (wrap64 (Int.tdiv a1 8))) (Int.tmod a1 8)) 1) == 1)) else (none)) else (none)) else (some false)) else (some false)) = some r := h
  clear h
  by_cases c3 : a1 ≥ 0
  · rw [if_pos c3] at H
    have c3b0 : decide (0 ≤ a1) = true := decide_eq_true c3
    clear c3
    by_cases c4 : (wrap64 (Int.tdiv a1 8)) < (l0.length : Int)
    rotate_left
    · rw [if_neg c4] at H
      have c4b0 : decide ((wrap64 (Int.tdiv a1 8)) < (l0.length : Int)) = false := decide_eq_false c4
      clear c4
      obtain rfl := Option.some.inj H
      go_enter Try.func13, Try.ntmps13
      go_wp2
      go_ret
      exact ⟨by first | rfl | (simp; done) | (simp [*]; done), by repeat (first | exact Drawn0.refl _ | apply Drawn0.step)⟩
    rw [if_pos c4] at H
    have c4b0 : decide ((wrap64 (Int.tdiv a1 8)) < (l0.length : Int)) = true := decide_eq_true c4
    clear c4
    obtain ⟨ji5, hji5⟩ : ∃ j_ : Int, (wrap64 (Int.tdiv a1 8)) = j_ := ⟨_, rfl⟩
    replace H : (if 0 ≤ (ji5) then (if 0 ≤ (Int.tmod a1 8) then (some ((Go.bits .and .u8 (shr .u8 (rd l0 (ji5)) (Int.tmod a1 8)) 1) == 1)) else (none)) else (none)) = some r := by first | (rw [hji5] at H; exact H) | (simp only [hji5] at H ⊢; exact H)
    (try rw [hji5] at c4b0)
    have hji5w : (IntKind.i64.wrap (Int.tdiv a1 8)) = ji5 := (i64_w _).trans hji5
    by_cases c6 : 0 ≤ (ji5)
    rotate_left
    · rw [if_neg c6] at H
      exact absurd H (by simp)
    rw [if_pos c6] at H
    have c6b0 : decide (0 ≤ (ji5)) = true := decide_eq_true c6
    clear c6
    obtain ⟨ji7, hji7⟩ : ∃ j_ : Int, (Int.tmod a1 8) = j_ := ⟨_, rfl⟩
    replace H : (if 0 ≤ (ji7) then (some ((Go.bits .and .u8 (shr .u8 (rd l0 (ji5)) (ji7)) 1) == 1)) else (none)) = some r := by first | (rw [hji7] at H; exact H) | (simp only [hji7] at H ⊢; exact H)
    by_cases c8 : 0 ≤ (ji7)
    rotate_left
    · rw [if_neg c8] at H
      exact absurd H (by simp)
    rw [if_pos c8] at H
    have c8b0 := eq_true c8
    have c8b1 : decide (0 ≤ (ji7)) = true := decide_eq_true c8
    clear c8
    obtain ⟨ji9, hji9⟩ : ∃ j_ : Int, (shr .u8 (rd l0 (ji5)) (ji7)) = j_ := ⟨_, rfl⟩
    replace H : (some ((Go.bits .and .u8 (ji9) 1) == 1)) = some r := by first | (rw [hji9] at H; exact H) | (simp only [hji9] at H ⊢; exact H)
    have hji9_ : ((rd l0 (ji5)) / 2 ^ min (ji7).toNat 8) = ji9 := hji9
    have hji9z : (ji7) ≤ 8 → ((rd l0 (ji5)) / 2 ^ (ji7).toNat) = ji9 := shr_small hji9
    obtain rfl := Option.some.inj H
    have p118 : 0 ≤ ((ji5) : Int) := of_decide_eq_true (by first | (with_reducible assumption) | assumption)
    have q118 : (ji5) < (l0.length : Int) := of_decide_eq_true (by first | (with_reducible assumption) | assumption)
    obtain ⟨ad118, e118, hx118_0⟩ := Kd.at_int HR0.out (ji5) p118 q118
    cases e118
    replace p118 := eq_true p118
    replace q118 := eq_true q118
    go_enter Try.func13, Try.ntmps13
    go_wp2
    go_ret
    exact ⟨by first | rfl | (simp; done) | (simp only [← hji5, ← hji7, ← hji9] <;> (first | rfl | simp)) | (simp [*]; done), by repeat (first | exact Drawn0.refl _ | apply Drawn0.step)⟩
  · rw [if_neg c3] at H
    have c3b0 : decide (0 ≤ a1) = false := decide_eq_false c3
    clear c3
    obtain rfl := Option.some.inj H
    go_enter Try.func13, Try.ntmps13
    go_wp2
    go_ret
    exact ⟨by first | rfl | (simp; done) | (simp [*]; done), by repeat (first | exact Drawn0.refl _ | apply Drawn0.step)⟩

/-! ### undercroftref07_ends: function 23 -/
def undercroftref07_ends.f (l0 : List Int) (a1 : Int) (a2 : Int) : Option (Int × Int) := some (mx a1 0, mn a2 (wrap64 (8 * (l0.length : Int))))
set_option maxHeartbeats 8000000 in
set_option maxRecDepth 100000 in
theorem undercroftref07_ends.calls (A0 : Option Addr) (c0 : Nat) (l0 : List Int) (a1 : Int) (a2 : Int) (r1 : Int) (r2 : Int) (w : World) (hr0 : Kd.C (Kd.int .u8) w A0 l0.length l0) (hc0 : l0.length ≤ c0) (h : undercroftref07_ends.f l0 a1 a2 = some (r1, r2)) :
    Calls Try.prog 23 #[.slice A0 l0.length c0, .int .i64 a1, .int .i64 a2] w fun e w' => e = .returned (.tuple #[.int .i64 r1, .int .i64 r2]) ∧ Below w.heap.size w w' := by
  have HR0 := Aside0.mk hr0
  have HC0 := Aside0.mk hc0
  clear hr0 hc0
  have HB := Aside0.mk (Below.refl w.heap.size w)
  have H : (some (mx a1 0, mn a2 (wrap64 (8 * (l0.length : Int))))) = some (r1, r2) := h
  clear h
  obtain ⟨ji4, hji4⟩ : ∃ j_ : Int, (mx a1 0) = j_ := ⟨_, rfl⟩
  replace H : (some (ji4, mn a2 (wrap64 (8 * (l0.length : Int))))) = some (r1, r2) := by first | (rw [hji4] at H; exact H) | (simp only [hji4] at H ⊢; exact H)
  (try (have hji4l : 0 ≤ ji4 := by (rw [← hji4]; unfold mx; (repeat' split) <;> omega)))
  (try (have hji4m : 0 ≤ ji4 := by omega))
  have hji4_ : (if a1 < 0 then 0 else a1) = ji4 := hji4
  obtain ⟨ji5, hji5⟩ : ∃ j_ : Int, (mn a2 (wrap64 (8 * (l0.length : Int)))) = j_ := ⟨_, rfl⟩
  replace H : (some (ji4, ji5)) = some (r1, r2) := by first | (rw [hji5] at H; exact H) | (simp only [hji5] at H ⊢; exact H)
  have hji5_ : (if (wrap64 (8 * (l0.length : Int))) < a2 then (wrap64 (8 * (l0.length : Int))) else a2) = ji5 := hji5
  simp only [Option.some.injEq, Prod.mk.injEq] at H
  obtain ⟨rfl, rfl⟩ := H
  go_enter Try.func23, Try.ntmps23
  go_wp2
  go_ret2
  exact ⟨by first | rfl | (simp [errW_none, errW_some] <;> rfl) | (simp only [← hji4, ← hji5]; first | rfl | (simp [errW_none, errW_some] <;> rfl)) | (simp [*, errW_none, errW_some] <;> rfl), by repeat (first | (with_reducible first | exact HB.out | apply below_alloc | apply pw_below_drewN | apply below_drew1) | exact HB.out)⟩

end Go.Proofs.Ytlieacllpifhkaa.U
