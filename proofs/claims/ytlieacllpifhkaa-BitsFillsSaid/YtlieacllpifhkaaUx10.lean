/- Written by uprint.py (ours) for this seat: functions of the translation as Lean functions, and what their calls do. Not trusted: Lean checks it. -/
import Derived.Test.YtlieacllpifhkaaUx0
import Derived.Test.YtlieacllpifhkaaUx3
import Derived.Test.YtlieacllpifhkaaUx5
import Derived.Test.YtlieacllpifhkaaUx6
namespace Go.Proofs.Ytlieacllpifhkaa.U
open Go.RowKit Go.Proofs.YtlieacllpifhkaaW.PrintWords Go.Proofs.YtlieacllpifhkaaW.PrintLast Go.Proofs.YtlieacllpifhkaaW.PrintMore
attribute [local go_sem] max2_int min2_int max_two min_two max_three min_three max_four min_four   -- for this text's walks alone
set_option linter.unusedVariables false
set_option linter.unusedSimpArgs false

/-! ### undercroftlaw07_BitsFills: function 4 -/
mutual
def undercroftlaw07_BitsFills.l0 : Nat → List Int → Int → Int → Int → Option (Bool)
  | 0, _, _, _, _ => none
  | k + 1, x0, x1, x2, x15 => if x15 < 2 then (if 0 ≤ x15 then ((bits_Fill.f k x0 x1 x2 (decide (x15 = 0))).bind fun t148 => (if (t148.length : Int) = (x0.length : Int) then (undercroftlaw07_BitsFills.l1 k x0 x1 x2 (decide (x15 = 0)) t148 0 x15) else (some false))) else (none)) else (some true)
def undercroftlaw07_BitsFills.l1 : Nat → List Int → Int → Int → Bool → List Int → Int → Int → Option (Bool)
  | 0, _, _, _, _, _, _, _ => none
  | k + 1, x0, x1, x2, x8, x9, x10, x15 => if x10 < (wrap64 (8 * (x0.length : Int))) then (if x10 ≥ x1 then (undercroftlaw07_BitsFills.j2 k x0 x1 x2 x8 x9 x10 (decide (x10 < x2)) x15) else (undercroftlaw07_BitsFills.j2 k x0 x1 x2 x8 x9 x10 false x15)) else (undercroftlaw07_BitsFills.l0 k x0 x1 x2 (wrap64 (x15 + 1)))
def undercroftlaw07_BitsFills.j2 : Nat → List Int → Int → Int → Bool → List Int → Int → Bool → Int → Option (Bool)
  | 0, _, _, _, _, _, _, _, _ => none
  | k + 1, x0, x1, x2, x8, x9, x10, x11, x15 => if x11 = true then ((bits_Get.f x9 x10).bind fun t151 => (if (t151 != x8) = true then (some false) else (undercroftlaw07_BitsFills.l1 k x0 x1 x2 x8 x9 (wrap64 (x10 + 1)) x15))) else ((bits_Get.f x9 x10).bind fun t152 => ((bits_Get.f x0 x10).bind fun t153 => (if (t152 != t153) = true then (some false) else (undercroftlaw07_BitsFills.l1 k x0 x1 x2 x8 x9 (wrap64 (x10 + 1)) x15))))
end
def undercroftlaw07_BitsFills.f (k : Nat) (l0 : List Int) (a1 : Int) (a2 : Int) : Option (Bool) := (undercroftlaw07_alive.f k).bind fun t147 => (if t147 = true then (undercroftlaw07_BitsFills.l0 k l0 a1 a2 0) else (some false))
theorem undercroftlaw07_BitsFills.mono_l : ∀ k, (∀ y0 y1 y2 y3, LeO (undercroftlaw07_BitsFills.l0 k y0 y1 y2 y3) (undercroftlaw07_BitsFills.l0 (k + 1) y0 y1 y2 y3)) ∧ (∀ y0 y1 y2 y3 y4 y5 y6, LeO (undercroftlaw07_BitsFills.l1 k y0 y1 y2 y3 y4 y5 y6) (undercroftlaw07_BitsFills.l1 (k + 1) y0 y1 y2 y3 y4 y5 y6)) ∧ (∀ y0 y1 y2 y3 y4 y5 y6 y7, LeO (undercroftlaw07_BitsFills.j2 k y0 y1 y2 y3 y4 y5 y6 y7) (undercroftlaw07_BitsFills.j2 (k + 1) y0 y1 y2 y3 y4 y5 y6 y7))
  | 0 => ⟨fun _ _ _ _ r h => by simp [undercroftlaw07_BitsFills.l0] at h, fun _ _ _ _ _ _ _ r h => by simp [undercroftlaw07_BitsFills.l1] at h, fun _ _ _ _ _ _ _ _ r h => by simp [undercroftlaw07_BitsFills.j2] at h⟩
  | k + 1 => by
    obtain ⟨ih0, ih1, ih2⟩ := undercroftlaw07_BitsFills.mono_l k
    refine ⟨?_, ?_, ?_⟩
    · intro y0 y1 y2 y3
      unfold undercroftlaw07_BitsFills.l0
      repeat' first
      | (with_reducible exact ih0 _ _ _ _)
      | (with_reducible exact ih1 _ _ _ _ _ _ _)
      | (with_reducible exact ih2 _ _ _ _ _ _ _ _)
      | (with_reducible exact bits_Fill.mono _ _ _ _ _)
      | (with_reducible exact undercroftlaw07_alive.mono _)
      | (with_reducible exact LeO.refl _)
      | (with_reducible exact LeO.none _)
      | (with_reducible refine LeO.ite ?_ ?_)
      | (with_reducible refine LeO.bind ?_ (fun _ => ?_))
      | exact ih0 _ _ _ _
      | exact ih1 _ _ _ _ _ _ _
      | exact ih2 _ _ _ _ _ _ _ _
      | exact bits_Fill.mono _ _ _ _ _
      | exact undercroftlaw07_alive.mono _
      | exact LeO.none _
      | refine LeO.ite ?_ ?_
      | refine LeO.bind ?_ (fun _ => ?_)
    · intro y0 y1 y2 y3 y4 y5 y6
      unfold undercroftlaw07_BitsFills.l1
      repeat' first
      | (with_reducible exact ih0 _ _ _ _)
      | (with_reducible exact ih1 _ _ _ _ _ _ _)
      | (with_reducible exact ih2 _ _ _ _ _ _ _ _)
      | (with_reducible exact bits_Fill.mono _ _ _ _ _)
      | (with_reducible exact undercroftlaw07_alive.mono _)
      | (with_reducible exact LeO.refl _)
      | (with_reducible exact LeO.none _)
      | (with_reducible refine LeO.ite ?_ ?_)
      | (with_reducible refine LeO.bind ?_ (fun _ => ?_))
      | exact ih0 _ _ _ _
      | exact ih1 _ _ _ _ _ _ _
      | exact ih2 _ _ _ _ _ _ _ _
      | exact bits_Fill.mono _ _ _ _ _
      | exact undercroftlaw07_alive.mono _
      | exact LeO.none _
      | refine LeO.ite ?_ ?_
      | refine LeO.bind ?_ (fun _ => ?_)
    · intro y0 y1 y2 y3 y4 y5 y6 y7
      unfold undercroftlaw07_BitsFills.j2
      repeat' first
      | (with_reducible exact ih0 _ _ _ _)
      | (with_reducible exact ih1 _ _ _ _ _ _ _)
      | (with_reducible exact ih2 _ _ _ _ _ _ _ _)
      | (with_reducible exact bits_Fill.mono _ _ _ _ _)
      | (with_reducible exact undercroftlaw07_alive.mono _)
      | (with_reducible exact LeO.refl _)
      | (with_reducible exact LeO.none _)
      | (with_reducible refine LeO.ite ?_ ?_)
      | (with_reducible refine LeO.bind ?_ (fun _ => ?_))
      | exact ih0 _ _ _ _
      | exact ih1 _ _ _ _ _ _ _
      | exact ih2 _ _ _ _ _ _ _ _
      | exact bits_Fill.mono _ _ _ _ _
      | exact undercroftlaw07_alive.mono _
      | exact LeO.none _
      | refine LeO.ite ?_ ?_
      | refine LeO.bind ?_ (fun _ => ?_)
theorem undercroftlaw07_BitsFills.mono : ∀ a0 a1 a2 k, LeO (undercroftlaw07_BitsFills.f k a0 a1 a2) (undercroftlaw07_BitsFills.f (k + 1) a0 a1 a2) := by
  intro a0 a1 a2 k
  obtain ⟨ih0, ih1, ih2⟩ := undercroftlaw07_BitsFills.mono_l k
  unfold undercroftlaw07_BitsFills.f
  repeat' first
      | (with_reducible exact ih0 _ _ _ _)
      | (with_reducible exact ih1 _ _ _ _ _ _ _)
      | (with_reducible exact ih2 _ _ _ _ _ _ _ _)
      | (with_reducible exact bits_Fill.mono _ _ _ _ _)
      | (with_reducible exact undercroftlaw07_alive.mono _)
      | (with_reducible exact LeO.refl _)
      | (with_reducible exact LeO.none _)
      | (with_reducible refine LeO.ite ?_ ?_)
      | (with_reducible refine LeO.bind ?_ (fun _ => ?_))
      | exact ih0 _ _ _ _
      | exact ih1 _ _ _ _ _ _ _
      | exact ih2 _ _ _ _ _ _ _ _
      | exact bits_Fill.mono _ _ _ _ _
      | exact undercroftlaw07_alive.mono _
      | exact LeO.none _
      | refine LeO.ite ?_ ?_
      | refine LeO.bind ?_ (fun _ => ?_)
set_option maxHeartbeats 8000000 in
set_option maxRecDepth 100000 in
theorem undercroftlaw07_BitsFills.calls (k : Nat) (A0 : Option Addr) (c0 : Nat) (l0 : List Int) (a1 : Int) (a2 : Int) (r : Bool) (w : World) (hr0 : Kd.C (Kd.int .u8) w A0 l0.length l0) (hc0 : l0.length ≤ c0) (h : undercroftlaw07_BitsFills.f k l0 a1 a2 = some r) (hT : r = true) :
    Calls Try.prog 4 #[.slice A0 l0.length c0, .int .i64 a1, .int .i64 a2] w fun e w' => e = .returned (.bool r) ∧ Below w.heap.size w w' := by
  have HR0 := Aside0.mk hr0
  have HC0 := Aside0.mk hc0
  clear hr0 hc0
  have HB := Aside0.mk (Below.refl w.heap.size w)
  have H : ((undercroftlaw07_alive.f k).bind fun t147 => (if t147 = true then (undercroftlaw07_BitsFills.l0 k l0 a1 a2 0) else (some false))) = some r := h
  clear h
  replace H := Option.bind_eq_some_iff.mp H
  obtain ⟨t147, A40, H⟩ := H
  replace H : (if t147 = true then (undercroftlaw07_BitsFills.l0 k l0 a1 a2 0) else (some false)) = some r := H
  have A4 := Aside0.mk A40
  clear A40
  by_cases c5 : t147 = true
  · subst c5
    have H1 : (undercroftlaw07_BitsFills.l0 k l0 a1 a2 0) = some r := by rw [if_pos rfl] at H; exact H
    clear H
    have H := H1
    clear H1
    have H' := Aside0.mk H
    clear H
    go_enter Try.func4, Try.ntmps4
    go_wp2_with (first | ((with_reducible refine gate_callee (f := 9) rfl ?_); refine goesL_ (some 12) rfl rfl Try.func9 (by kernel_rfl) rfl #[] rfl (by (try simp only [List.map_toArray, List.map_cons, List.map_nil]); first | done | rfl | (simp only [List.length_drop, List.length_take]; rfl)) ?_; (with_reducible refine (undercroftlaw07_alive.calls k  true _ A4.out rfl).mono ?_); rintro e w6 ⟨rfl, hb⟩; refine ⟨_, rfl, ?_⟩; have n0_ := Aside0.mk (below_step (by repeat (first | (with_reducible first | exact HB.out | apply below_alloc | apply pw_below_drewN | apply below_drew1) | exact HB.out)) hb); clear HB; have HB := n0_; clear n0_; (try clear hb); (try clear hb2); (try clear hk); (try clear hi)))
    go_loopg [15] k (fun kq v15 w' => ∃ (x15_1 : Int), v15 = .int .i64 x15_1 ∧ Aside0 (undercroftlaw07_BitsFills.l0 kq l0 a1 a2 x15_1 = some r) ∧ Aside0 (kq ≤ k) ∧ Aside0 (Below w.heap.size w w'))
    case atStart => exact ⟨(0), (by first | rfl | (simp; done) | (simp [*]; done)), H', ⟨Nat.le_refl _⟩, ⟨by repeat (first | (with_reducible first | exact HB.out | apply below_alloc | apply pw_below_drewN | apply below_drew1) | exact HB.out)⟩⟩
    case round =>
      clear H'
      try clear p2
      try clear c4
      try clear c5
      obtain ⟨x15_1, rfl, HA, HK1, HB⟩ := hrel
      cases gk with
      | zero => exact absurd HA.out (by simp [undercroftlaw07_BitsFills.l0])
      | succ k1 =>
        have H := HA.out
        clear HA
        simp only [undercroftlaw07_BitsFills.l0] at H
        by_cases c7 : x15_1 < 2
        rotate_left
        · rw [if_neg c7] at H
          have c7b0 : decide (x15_1 < 2) = false := decide_eq_false c7
          clear c7
          obtain rfl := Option.some.inj H
          go_wp2
          go_ret
          exact ⟨by first | rfl | (simp [errW_none, errW_some] <;> rfl) | (simp [*, errW_none, errW_some] <;> rfl), by repeat (first | (with_reducible first | exact HB.out | apply below_alloc | apply pw_below_drewN | apply below_drew1) | exact HB.out)⟩
        rw [if_pos c7] at H
        have c7b0 : decide (x15_1 < 2) = true := decide_eq_true c7
        clear c7
        by_cases c8 : 0 ≤ x15_1
        rotate_left
        · rw [if_neg c8] at H
          exact absurd H (by simp)
        rw [if_pos c8] at H
        have c8b0 : decide (0 ≤ x15_1) = true := decide_eq_true c8
        clear c8
        replace H := Option.bind_eq_some_iff.mp H
        obtain ⟨t148, A100, H⟩ := H
        replace H : (if (t148.length : Int) = (l0.length : Int) then (undercroftlaw07_BitsFills.l1 k1 l0 a1 a2 (decide (x15_1 = 0)) t148 0 x15_1) else (some false)) = some r := H
        have A10 := Aside0.mk A100
        clear A100
        by_cases c11 : (t148.length : Int) = (l0.length : Int)
        rotate_left
        · rw [if_neg c11] at H
          have c11b0 : ((t148.length : Int) == (l0.length : Int)) = false := beq_eq_false_iff_ne.mpr c11
          have c11b1 : ((t148.length : Int) != (l0.length : Int)) = true := bne_iff_ne.mpr c11
          have c11b2 : (t148.length == l0.length) = false := by first | simpa using c11 | (simp at c11 ⊢; omega)
          exact absurd (Option.some.inj H) (by rw [hT]; decide)
        rw [if_pos c11] at H
        have c11b0 : ((t148.length : Int) == (l0.length : Int)) = true := beq_iff_eq.mpr c11
        have c11b1 : ((t148.length : Int) != (l0.length : Int)) = false := bne_eq_false_iff_eq.mpr c11
        have c11b2 : (t148.length == l0.length) = true := by first | simpa using c11 | (simp at c11 ⊢; omega)
        clear c11
        have H' := Aside0.mk H
        clear H
        have p9 : 0 ≤ (x15_1 : Int) := of_decide_eq_true (by first | (with_reducible assumption) | assumption)
        have q9 : x15_1 < (2 : Int) := of_decide_eq_true (by first | (with_reducible assumption) | assumption)
        have hx9 : ∀ w, (Instr.index 30 (.agg #[.bool true, .bool false]) (.int .i64 x15_1)).run Try.prog w = .ok (.bool (decide (x15_1 = 0))) w := (by have h_ : x15_1 = 0 ∨ x15_1 = 1 := (by omega); rcases h_ with h_ | h_ <;> (rw [h_]; exact fun _ => (by kernel_rfl)))
        clear p9 q9
        go_wp2_with (first | ((with_reducible refine gate_callee (f := 18) rfl ?_); refine goesL_ (some 22) rfl rfl Try.func18 (by kernel_rfl) rfl #[.slice A0 l0.length c0, .int .i64 a1, .int .i64 a2, .bool (decide (x15_1 = 0))] rfl (by (try simp only [List.map_toArray, List.map_cons, List.map_nil]); first | done | rfl | (simp only [List.length_drop, List.length_take]; rfl)) ?_; (with_reducible refine (bits_Fill.calls k1 _ _ l0 a1 a2 (decide (x15_1 = 0)) t148 _ ?side1 ?side2 A10.out).mono ?_); (case side1 => repeat (first | exact (Kd.C_below HR0.out HB.out) | (with_reducible refine Kd.C_alloc ?_ _) | (with_reducible refine Kd.C_drewN ?_ _) | (with_reducible refine Kd.C_drew ?_))); (case side2 => exact HC0.out); rintro e w12 ⟨v149, rfl, ho0, hb⟩; refine ⟨_, rfl, ?_⟩; have n0_ := Aside0.mk (Kd.R_lower ho0 (below_size (by repeat (first | (with_reducible first | exact HB.out | apply below_alloc | apply pw_below_drewN | apply below_drew1) | exact HB.out)))); have n1_ := Aside0.mk (below_step (by repeat (first | (with_reducible first | exact HB.out | apply below_alloc | apply pw_below_drewN | apply below_drew1) | exact HB.out)) hb); clear HB; have HO150 := n0_; have HB := n1_; clear n0_ n1_; (try clear hb); (try clear hb2); (try clear hk); (try clear hi); (try clear ho0); obtain ⟨Ao13, co13, eo13⟩ := Kd.R_slice HO150.out; subst eo13))
        go_loopg [10] k1 (fun kq v10 w' => ∃ (x10_2 : Int), v10 = .int .i64 x10_2 ∧ Aside0 (undercroftlaw07_BitsFills.l1 kq l0 a1 a2 (decide (x15_1 = 0)) t148 x10_2 x15_1 = some r) ∧ Aside0 (kq ≤ k1) ∧ Aside0 (Kd.R (Kd.int .u8) 5 w' w.heap.size (fun _ => True) (.slice Ao13 t148.length co13) t148) ∧ Aside0 (Below w.heap.size w w'))
        case atStart => exact ⟨(0), (by first | rfl | (simp; done) | (simp [*]; done)), H', ⟨Nat.le_refl _⟩, ⟨by (with_reducible repeat (first | apply Kd.R_alloc | apply Kd.R_drewN | apply Kd.R_drew)); exact HO150.out⟩, ⟨by repeat (first | (with_reducible first | exact HB.out | apply below_alloc | apply pw_below_drewN | apply below_drew1) | exact HB.out)⟩⟩
        case round =>
          clear H'
          try clear c1
          try clear p2
          try clear c4
          try clear c5
          try clear c7
          try clear c7b0
          try clear c8
          try clear c8b0
          try clear c9
          try clear p9
          try clear q9
          try clear hx9
          try clear c11
          try clear c11b0
          try clear c11b1
          try clear c11b2
          try clear p2
          try clear p9
          try clear q9
          obtain ⟨x10_2, rfl, HA, HK2, HO_9, HB⟩ := hrel
          cases gk with
          | zero => exact absurd HA.out (by simp [undercroftlaw07_BitsFills.l1])
          | succ k2 =>
            have H := HA.out
            clear HA
            simp only [undercroftlaw07_BitsFills.l1] at H
            by_cases c14 : x10_2 < (wrap64 (8 * (l0.length : Int)))
            rotate_left
            · rw [if_neg c14] at H
              have c14b0 : decide (x10_2 < (wrap64 (8 * (l0.length : Int)))) = false := decide_eq_false c14
              clear c14
              have H' := Aside0.mk H
              clear H
              go_wp2
              go_roundg k2
              case measure => have := HK1.out; have := HK2.out; omega
              case rel => exact ⟨(wrap64 (x15_1 + 1)), (by first | rfl | (simp; done) | (simp [*]; done)), H', ⟨by have := HK1.out; have := HK2.out; omega⟩, ⟨by repeat (first | (with_reducible first | exact HB.out | apply below_alloc | apply pw_below_drewN | apply below_drew1) | exact HB.out)⟩⟩
            rw [if_pos c14] at H
            have c14b0 : decide (x10_2 < (wrap64 (8 * (l0.length : Int)))) = true := decide_eq_true c14
            clear c14
            have HC15 := Aside0.mk H
            clear H
            go_upto_region 12 with (fail)
            go_cut [11] (fun v11 wc => ∃ (kq : Nat) (x11_14 : Bool), v11 = .bool x11_14 ∧ Aside0 (undercroftlaw07_BitsFills.j2 kq l0 a1 a2 (decide (x15_1 = 0)) t148 x10_2 x11_14 x15_1 = some r) ∧ Aside0 (kq ≤ k2) ∧ Aside0 (Kd.R (Kd.int .u8) 5 wc w.heap.size (fun _ => True) (.slice Ao13 t148.length co13) t148) ∧ Aside0 (Below w.heap.size w wc))
            case first =>
              have H := HC15.out
              clear HC15
              by_cases c16 : x10_2 ≥ a1
              rotate_left
              · rw [if_neg c16] at H
                have c16b0 : decide (a1 ≤ x10_2) = false := decide_eq_false c16
                clear c16
                (first | rw [c16b0] | (simp only [i64_w, i32_w]; rw [c16b0]) | skip)
                have H' := Aside0.mk H
                clear H
                go_wp2
                go_meet
                case rel => exact ⟨_, (false), (by first | rfl | (simp; done) | (simp [*]; done)), H', ⟨by have := HK1.out; have := HK2.out; first | omega | exact Nat.le_refl _⟩, ⟨by (with_reducible repeat (first | apply Kd.R_alloc | apply Kd.R_drewN | apply Kd.R_drew)); exact HO_9.out⟩, ⟨by repeat (first | (with_reducible first | exact HB.out | apply below_alloc | apply pw_below_drewN | apply below_drew1) | exact HB.out)⟩⟩
              rw [if_pos c16] at H
              have c16b0 : decide (a1 ≤ x10_2) = true := decide_eq_true c16
              clear c16
              (first | rw [c16b0] | (simp only [i64_w, i32_w]; rw [c16b0]) | skip)
              have H' := Aside0.mk H
              clear H
              go_wp2
              go_meet
              case rel => exact ⟨_, (decide (x10_2 < a2)), (by first | rfl | (simp; done) | (simp [*]; done)), H', ⟨by have := HK1.out; have := HK2.out; first | omega | exact Nat.le_refl _⟩, ⟨by (with_reducible repeat (first | apply Kd.R_alloc | apply Kd.R_drewN | apply Kd.R_drew)); exact HO_9.out⟩, ⟨by repeat (first | (with_reducible first | exact HB.out | apply below_alloc | apply pw_below_drewN | apply below_drew1) | exact HB.out)⟩⟩
            case rest =>
              clear HC15
              try clear c1
              try clear p2
              try clear c4
              try clear c5
              try clear p6
              try clear c7
              try clear c7b0
              try clear c8
              try clear c8b0
              try clear c9
              try clear p9
              try clear q9
              try clear hx9
              try clear c11
              try clear c11b0
              try clear c11b1
              try clear c11b2
              try clear c14
              try clear c14b0
              try clear c16
              try clear c16b0
              try clear p2
              try clear p9
              try clear q9
              obtain ⟨kq, x11_14, rfl, HA, HJ14, HO_9, HB⟩ := hcut
              cases kq with
              | zero => exact absurd HA.out (by simp [undercroftlaw07_BitsFills.j2])
              | succ kj14 =>
                have H := HA.out
                clear HA
                simp only [undercroftlaw07_BitsFills.j2] at H
                by_cases c17 : x11_14 = true
                · subst c17
                  have H1 : ((bits_Get.f t148 x10_2).bind fun t151 => (if (t151 != (decide (x15_1 = 0))) = true then (some false) else (undercroftlaw07_BitsFills.l1 kj14 l0 a1 a2 (decide (x15_1 = 0)) t148 (wrap64 (x10_2 + 1)) x15_1))) = some r := by rw [if_pos rfl] at H; exact H
                  clear H
                  have H := H1
                  clear H1
                  replace H := Option.bind_eq_some_iff.mp H
                  obtain ⟨t151, A180, H⟩ := H
                  replace H : (if (t151 != (decide (x15_1 = 0))) = true then (some false) else (undercroftlaw07_BitsFills.l1 kj14 l0 a1 a2 (decide (x15_1 = 0)) t148 (wrap64 (x10_2 + 1)) x15_1)) = some r := H
                  have A18 := Aside0.mk A180
                  clear A180
                  by_cases c19 : (t151 != (decide (x15_1 = 0))) = true
                  · rw [if_pos c19] at H
                    have c19b0 : (t151 != (decide (x15_1 = 0))) = true := c19
                    (try (have c19b1 : decide (t151 = (decide (x15_1 = 0))) = false := by simpa using c19))
                    (try (have c19b2 : (t151 == (decide (x15_1 = 0))) = false := by simpa using c19))
                    (try (have c19b3 : ¬ (t151 = (decide (x15_1 = 0))) := by simpa using c19))
                    clear c19
                    exact absurd (Option.some.inj H) (by rw [hT]; decide)
                  rw [if_neg c19] at H
                  have c19b0 : (t151 != (decide (x15_1 = 0))) = false := by simpa using c19
                  (try (have c19b1 : decide (t151 = (decide (x15_1 = 0))) = true := by simpa using c19))
                  (try (have c19b2 : (t151 == (decide (x15_1 = 0))) = true := by simpa using c19))
                  clear c19
                  have H' := Aside0.mk H
                  clear H
                  go_wp2_with (first | (go_at_call 12; (with_reducible refine (bits_Get.calls _ _ t148 x10_2 t151 _ ?side1 ?side2 A18.out).mono ?_); (case side1 => repeat (first | exact (Kd.R_reads' HO_9.out).2.2 | (with_reducible refine Kd.C_alloc ?_ _) | (with_reducible refine Kd.C_drewN ?_ _) | (with_reducible refine Kd.C_drew ?_))); (case side2 => exact (Kd.R_reads' HO_9.out).2.1); rintro e w' ⟨rfl, ⟨nd, rfl⟩⟩))
                  go_roundg kj14
                  case measure => have := HK1.out; have := HK2.out; have := HJ14.out; omega
                  case rel => exact ⟨(wrap64 (x10_2 + 1)), (by first | rfl | (simp; done) | (simp [*]; done)), H', ⟨by have := HK1.out; have := HK2.out; have := HJ14.out; omega⟩, ⟨by (with_reducible repeat (first | apply Kd.R_alloc | apply Kd.R_drewN | apply Kd.R_drew)); exact HO_9.out⟩, ⟨by repeat (first | (with_reducible first | exact HB.out | apply below_alloc | apply pw_below_drewN | apply below_drew1) | exact HB.out)⟩⟩
                replace c17 := Bool.eq_false_iff.mpr c17
                subst c17
                have H1 : ((bits_Get.f t148 x10_2).bind fun t152 => ((bits_Get.f l0 x10_2).bind fun t153 => (if (t152 != t153) = true then (some false) else (undercroftlaw07_BitsFills.l1 kj14 l0 a1 a2 (decide (x15_1 = 0)) t148 (wrap64 (x10_2 + 1)) x15_1)))) = some r := by rw [if_neg (show ¬ (false = true) by decide)] at H; exact H
                clear H
                have H := H1
                clear H1
                replace H := Option.bind_eq_some_iff.mp H
                obtain ⟨t152, A200, H⟩ := H
                replace H : ((bits_Get.f l0 x10_2).bind fun t153 => (if (t152 != t153) = true then (some false) else (undercroftlaw07_BitsFills.l1 kj14 l0 a1 a2 (decide (x15_1 = 0)) t148 (wrap64 (x10_2 + 1)) x15_1))) = some r := H
                have A20 := Aside0.mk A200
                clear A200
                replace H := Option.bind_eq_some_iff.mp H
                obtain ⟨t153, A210, H⟩ := H
                replace H : (if (t152 != t153) = true then (some false) else (undercroftlaw07_BitsFills.l1 kj14 l0 a1 a2 (decide (x15_1 = 0)) t148 (wrap64 (x10_2 + 1)) x15_1)) = some r := H
                have A21 := Aside0.mk A210
                clear A210
                by_cases c22 : (t152 != t153) = true
                · rw [if_pos c22] at H
                  have c22b0 : (t152 != t153) = true := c22
                  (try (have c22b1 : decide (t152 = t153) = false := by simpa using c22))
                  (try (have c22b2 : (t152 == t153) = false := by simpa using c22))
                  (try (have c22b3 : ¬ (t152 = t153) := by simpa using c22))
                  clear c22
                  exact absurd (Option.some.inj H) (by rw [hT]; decide)
                rw [if_neg c22] at H
                have c22b0 : (t152 != t153) = false := by simpa using c22
                (try (have c22b1 : decide (t152 = t153) = true := by simpa using c22))
                (try (have c22b2 : (t152 == t153) = true := by simpa using c22))
                clear c22
                have H' := Aside0.mk H
                clear H
                go_wp2_with (first | (go_at_call 12; (with_reducible refine (bits_Get.calls _ _ t148 x10_2 t152 _ ?side1 ?side2 A20.out).mono ?_); (case side1 => repeat (first | exact (Kd.R_reads' HO_9.out).2.2 | (with_reducible refine Kd.C_alloc ?_ _) | (with_reducible refine Kd.C_drewN ?_ _) | (with_reducible refine Kd.C_drew ?_))); (case side2 => exact (Kd.R_reads' HO_9.out).2.1); rintro e w' ⟨rfl, ⟨nd, rfl⟩⟩) | (go_at_call 12; (with_reducible refine (bits_Get.calls _ _ l0 x10_2 t153 _ ?side1 ?side2 A21.out).mono ?_); (case side1 => repeat (first | exact (Kd.C_below HR0.out (by repeat (first | (with_reducible first | exact HB.out | apply below_alloc | apply pw_below_drewN | apply below_drew1) | exact HB.out))) | (with_reducible refine Kd.C_alloc ?_ _) | (with_reducible refine Kd.C_drewN ?_ _) | (with_reducible refine Kd.C_drew ?_))); (case side2 => exact HC0.out); rintro e w' ⟨rfl, ⟨nd, rfl⟩⟩))
                go_roundg kj14
                case measure => have := HK1.out; have := HK2.out; have := HJ14.out; omega
                case rel => exact ⟨(wrap64 (x10_2 + 1)), (by first | rfl | (simp; done) | (simp [*]; done)), H', ⟨by have := HK1.out; have := HK2.out; have := HJ14.out; omega⟩, ⟨by (with_reducible repeat (first | apply Kd.R_alloc | apply Kd.R_drewN | apply Kd.R_drew)); exact HO_9.out⟩, ⟨by repeat (first | (with_reducible first | exact HB.out | apply below_alloc | apply pw_below_drewN | apply below_drew1) | exact HB.out)⟩⟩
  · replace c5 := Bool.eq_false_iff.mpr c5
    subst c5
    have H1 : (some false) = some r := by rw [if_neg (show ¬ (false = true) by decide)] at H; exact H
    clear H
    have H := H1
    clear H1
    exact absurd (Option.some.inj H) (by rw [hT]; decide)

/-- THE ONE PURE STATEMENT of undercroftlaw07_BitsFills: yours. -/
def undercroftlaw07_BitsFills.Pure : Prop := ∀ (l0 : List Int) (a1 : Int) (a2 : Int), l0.length ≤ maxLen → l0.length * 1 ≤ 140737488351232 → (∀ x ∈ l0, (Lit.int .u8 x).wf = true) → (Lit.int .i64 a1).wf = true → (Lit.int .i64 a2).wf = true → ∃ k, undercroftlaw07_BitsFills.f k l0 a1 a2 = some true
theorem undercroftlaw07_BitsFills.walk (P : undercroftlaw07_BitsFills.Pure) (a0 : Option Addr) (len0 cap0 : Nat) (z0 : List Int) (a1 : Int) (a2 : Int) (w : World) (w0 : (a0 = none ∧ len0 = 0 ∧ cap0 = 0 ∧ z0 = []) ∨ ∃ x, a0 = some x ∧ len0 ≤ cap0 ∧ cap0 ≤ maxLen ∧ z0.length = cap0 ∧ (∀ i, i < z0.length → w.cell? (x.add i) = some (.int .u8 (z0.getD i 0))) ∧ ∀ n ∈ z0, (Lit.int .u8 n).wf = true) (y0 : len0 * 1 ≤ 140737488351232) (w1 : (Lit.int .i64 a1).wf = true) (w2 : (Lit.int .i64 a2).wf = true) :
    Calls Try.prog 4 #[.slice a0 len0 cap0, .int .i64 a1, .int .i64 a2] w fun e w' => e = .returned (.bool true) ∧ Below w.heap.size w w' := by
  obtain ⟨l0, rfl, hr0, hm0, hw0, hc0⟩ := ReadsInt.ofRowC w0
  obtain ⟨k, h⟩ := P l0 a1 a2 hm0 y0 hw0 w1 w2
  refine (undercroftlaw07_BitsFills.calls k _ _ l0 a1 a2 true w (Kd.C_of_reads (d := (0 : Int)) (h1 := fun _ => rfl) hr0) hc0 h rfl).mono ?_
  rintro e w' ⟨rfl, hd⟩
  exact ⟨rfl, hd⟩

end Go.Proofs.Ytlieacllpifhkaa.U
