/- Written by uprint.py (ours) for this seat: functions of the translation as Lean functions, and what their calls do. Not trusted: Lean checks it. -/
import Derived.Test.YtlieacllpifhkaaUx0
import Derived.Test.YtlieacllpifhkaaUx2
import Derived.Test.YtlieacllpifhkaaUx3
import Derived.Test.YtlieacllpifhkaaUx4
import Derived.Test.YtlieacllpifhkaaUx6
namespace Go.Proofs.Ytlieacllpifhkaa.U
open Go.RowKit Go.Proofs.YtlieacllpifhkaaW.PrintWords Go.Proofs.YtlieacllpifhkaaW.PrintLast Go.Proofs.YtlieacllpifhkaaW.PrintMore
attribute [local go_sem] max2_int min2_int max_two min_two max_three min_three max_four min_four   -- for this text's walks alone
set_option linter.unusedVariables false
set_option linter.unusedSimpArgs false

/-! ### undercroftlaw07_BitsLongest: function 6 -/
mutual
def undercroftlaw07_BitsLongest.j0 : Nat → List Int → Int → Int → Int → Int → Bool → Option (Bool)
  | 0, _, _, _, _, _, _ => none
  | k + 1, x0, x1, x2, x7, x8, x59 => if x59 = true then (some false) else (undercroftlaw07_BitsLongest.l0 k x0 x2 x7 x8 0 (mx x1 0))
def undercroftlaw07_BitsLongest.l0 : Nat → List Int → Int → Int → Int → Int → Int → Option (Bool)
  | 0, _, _, _, _, _, _ => none
  | k + 1, x0, x2, x7, x8, x9, x10 => if x10 < x2 then (undercroftlaw07_BitsLongest.j2 k x0 x2 x7 x8 x9 x10 (decide (x10 < (wrap64 (8 * (x0.length : Int)))))) else (undercroftlaw07_BitsLongest.j2 k x0 x2 x7 x8 x9 x10 false)
def undercroftlaw07_BitsLongest.j2 : Nat → List Int → Int → Int → Int → Int → Int → Bool → Option (Bool)
  | 0, _, _, _, _, _, _, _ => none
  | k + 1, x0, x2, x7, x8, x9, x10, x71 => if x71 = true then ((bits_Get.f x0 x10).bind fun t158 => (if t158 = true then (if 0 > x8 then (some false) else (if 0 = x8 then (if x10 < (wrap64 ((wrap64 (x7 + x8)) - 1)) then (some false) else (undercroftlaw07_BitsLongest.l0 k x0 x2 x7 x8 0 (wrap64 (x10 + 1)))) else (undercroftlaw07_BitsLongest.l0 k x0 x2 x7 x8 0 (wrap64 (x10 + 1))))) else (if (wrap64 (x9 + 1)) > x8 then (some false) else (if (wrap64 (x9 + 1)) = x8 then (if x10 < (wrap64 ((wrap64 (x7 + x8)) - 1)) then (some false) else (undercroftlaw07_BitsLongest.l0 k x0 x2 x7 x8 (wrap64 (x9 + 1)) (wrap64 (x10 + 1)))) else (undercroftlaw07_BitsLongest.l0 k x0 x2 x7 x8 (wrap64 (x9 + 1)) (wrap64 (x10 + 1))))))) else (some true)
end
def undercroftlaw07_BitsLongest.f (k : Nat) (l0 : List Int) (a1 : Int) (a2 : Int) : Option (Bool) := (undercroftlaw07_alive.f k).bind fun t153 => (if t153 = true then ((bits_Longest.f k l0 a1 a2).bind fun bt154 => (if bt154.2 = 0 then (if bt154.1 = (-1) then ((bits_First.f k l0 a1 a2 false).bind fun t156 => (some (t156 == (-1)))) else (some false)) else (if bt154.1 < (mx a1 0) then (undercroftlaw07_BitsLongest.j0 k l0 a1 a2 bt154.1 bt154.2 true) else (if bt154.1 > (wrap64 ((wrap64 (8 * (l0.length : Int))) - bt154.2)) then (undercroftlaw07_BitsLongest.j0 k l0 a1 a2 bt154.1 bt154.2 true) else (if bt154.1 > (wrap64 (a2 - bt154.2)) then (undercroftlaw07_BitsLongest.j0 k l0 a1 a2 bt154.1 bt154.2 true) else ((bits_Count.f k l0 bt154.1 (wrap64 (bt154.1 + bt154.2))).bind fun t157 => (undercroftlaw07_BitsLongest.j0 k l0 a1 a2 bt154.1 bt154.2 (t157 != 0)))))))) else (some false))
theorem undercroftlaw07_BitsLongest.mono_l : ∀ k, (∀ y0 y1 y2 y3 y4 y5, LeO (undercroftlaw07_BitsLongest.j0 k y0 y1 y2 y3 y4 y5) (undercroftlaw07_BitsLongest.j0 (k + 1) y0 y1 y2 y3 y4 y5)) ∧ (∀ y0 y1 y2 y3 y4 y5, LeO (undercroftlaw07_BitsLongest.l0 k y0 y1 y2 y3 y4 y5) (undercroftlaw07_BitsLongest.l0 (k + 1) y0 y1 y2 y3 y4 y5)) ∧ (∀ y0 y1 y2 y3 y4 y5 y6, LeO (undercroftlaw07_BitsLongest.j2 k y0 y1 y2 y3 y4 y5 y6) (undercroftlaw07_BitsLongest.j2 (k + 1) y0 y1 y2 y3 y4 y5 y6))
  | 0 => ⟨fun _ _ _ _ _ _ r h => by simp [undercroftlaw07_BitsLongest.j0] at h, fun _ _ _ _ _ _ r h => by simp [undercroftlaw07_BitsLongest.l0] at h, fun _ _ _ _ _ _ _ r h => by simp [undercroftlaw07_BitsLongest.j2] at h⟩
  | k + 1 => by
    obtain ⟨ih0, ih1, ih2⟩ := undercroftlaw07_BitsLongest.mono_l k
    refine ⟨?_, ?_, ?_⟩
    · intro y0 y1 y2 y3 y4 y5
      unfold undercroftlaw07_BitsLongest.j0
      repeat' first
      | (with_reducible exact ih0 _ _ _ _ _ _)
      | (with_reducible exact ih1 _ _ _ _ _ _)
      | (with_reducible exact ih2 _ _ _ _ _ _ _)
      | (with_reducible exact bits_Count.mono _ _ _ _)
      | (with_reducible exact bits_First.mono _ _ _ _ _)
      | (with_reducible exact bits_Longest.mono _ _ _ _)
      | (with_reducible exact undercroftlaw07_alive.mono _)
      | (with_reducible exact LeO.refl _)
      | (with_reducible exact LeO.none _)
      | (with_reducible refine LeO.ite ?_ ?_)
      | (with_reducible refine LeO.bind ?_ (fun _ => ?_))
      | exact ih0 _ _ _ _ _ _
      | exact ih1 _ _ _ _ _ _
      | exact ih2 _ _ _ _ _ _ _
      | exact bits_Count.mono _ _ _ _
      | exact bits_First.mono _ _ _ _ _
      | exact bits_Longest.mono _ _ _ _
      | exact undercroftlaw07_alive.mono _
      | exact LeO.none _
      | refine LeO.ite ?_ ?_
      | refine LeO.bind ?_ (fun _ => ?_)
    · intro y0 y1 y2 y3 y4 y5
      unfold undercroftlaw07_BitsLongest.l0
      repeat' first
      | (with_reducible exact ih0 _ _ _ _ _ _)
      | (with_reducible exact ih1 _ _ _ _ _ _)
      | (with_reducible exact ih2 _ _ _ _ _ _ _)
      | (with_reducible exact bits_Count.mono _ _ _ _)
      | (with_reducible exact bits_First.mono _ _ _ _ _)
      | (with_reducible exact bits_Longest.mono _ _ _ _)
      | (with_reducible exact undercroftlaw07_alive.mono _)
      | (with_reducible exact LeO.refl _)
      | (with_reducible exact LeO.none _)
      | (with_reducible refine LeO.ite ?_ ?_)
      | (with_reducible refine LeO.bind ?_ (fun _ => ?_))
      | exact ih0 _ _ _ _ _ _
      | exact ih1 _ _ _ _ _ _
      | exact ih2 _ _ _ _ _ _ _
      | exact bits_Count.mono _ _ _ _
      | exact bits_First.mono _ _ _ _ _
      | exact bits_Longest.mono _ _ _ _
      | exact undercroftlaw07_alive.mono _
      | exact LeO.none _
      | refine LeO.ite ?_ ?_
      | refine LeO.bind ?_ (fun _ => ?_)
    · intro y0 y1 y2 y3 y4 y5 y6
      unfold undercroftlaw07_BitsLongest.j2
      repeat' first
      | (with_reducible exact ih0 _ _ _ _ _ _)
      | (with_reducible exact ih1 _ _ _ _ _ _)
      | (with_reducible exact ih2 _ _ _ _ _ _ _)
      | (with_reducible exact bits_Count.mono _ _ _ _)
      | (with_reducible exact bits_First.mono _ _ _ _ _)
      | (with_reducible exact bits_Longest.mono _ _ _ _)
      | (with_reducible exact undercroftlaw07_alive.mono _)
      | (with_reducible exact LeO.refl _)
      | (with_reducible exact LeO.none _)
      | (with_reducible refine LeO.ite ?_ ?_)
      | (with_reducible refine LeO.bind ?_ (fun _ => ?_))
      | exact ih0 _ _ _ _ _ _
      | exact ih1 _ _ _ _ _ _
      | exact ih2 _ _ _ _ _ _ _
      | exact bits_Count.mono _ _ _ _
      | exact bits_First.mono _ _ _ _ _
      | exact bits_Longest.mono _ _ _ _
      | exact undercroftlaw07_alive.mono _
      | exact LeO.none _
      | refine LeO.ite ?_ ?_
      | refine LeO.bind ?_ (fun _ => ?_)
theorem undercroftlaw07_BitsLongest.mono : ∀ a0 a1 a2 k, LeO (undercroftlaw07_BitsLongest.f k a0 a1 a2) (undercroftlaw07_BitsLongest.f (k + 1) a0 a1 a2) := by
  intro a0 a1 a2 k
  obtain ⟨ih0, ih1, ih2⟩ := undercroftlaw07_BitsLongest.mono_l k
  unfold undercroftlaw07_BitsLongest.f
  repeat' first
      | (with_reducible exact ih0 _ _ _ _ _ _)
      | (with_reducible exact ih1 _ _ _ _ _ _)
      | (with_reducible exact ih2 _ _ _ _ _ _ _)
      | (with_reducible exact bits_Count.mono _ _ _ _)
      | (with_reducible exact bits_First.mono _ _ _ _ _)
      | (with_reducible exact bits_Longest.mono _ _ _ _)
      | (with_reducible exact undercroftlaw07_alive.mono _)
      | (with_reducible exact LeO.refl _)
      | (with_reducible exact LeO.none _)
      | (with_reducible refine LeO.ite ?_ ?_)
      | (with_reducible refine LeO.bind ?_ (fun _ => ?_))
      | exact ih0 _ _ _ _ _ _
      | exact ih1 _ _ _ _ _ _
      | exact ih2 _ _ _ _ _ _ _
      | exact bits_Count.mono _ _ _ _
      | exact bits_First.mono _ _ _ _ _
      | exact bits_Longest.mono _ _ _ _
      | exact undercroftlaw07_alive.mono _
      | exact LeO.none _
      | refine LeO.ite ?_ ?_
      | refine LeO.bind ?_ (fun _ => ?_)
set_option maxHeartbeats 8000000 in
set_option maxRecDepth 100000 in
theorem undercroftlaw07_BitsLongest.calls (k : Nat) (A0 : Option Addr) (c0 : Nat) (l0 : List Int) (a1 : Int) (a2 : Int) (r : Bool) (w : World) (hr0 : Kd.C (Kd.int .u8) w A0 l0.length l0) (hc0 : l0.length ≤ c0) (h : undercroftlaw07_BitsLongest.f k l0 a1 a2 = some r) (hT : r = true) :
    Calls Try.prog 6 #[.slice A0 l0.length c0, .int .i64 a1, .int .i64 a2] w fun e w' => e = .returned (.bool r) ∧ Below w.heap.size w w' := by
  have HR0 := Aside0.mk hr0
  have HC0 := Aside0.mk hc0
  clear hr0 hc0
  have HB := Aside0.mk (Below.refl w.heap.size w)
  have H : ((undercroftlaw07_alive.f k).bind fun t153 => (if t153 = true then ((bits_Longest.f k l0 a1 a2).bind fun bt154 => (if bt154.2 = 0 then (if bt154.1 = (-1) then ((bits_First.f k l0 a1 a2 false).bind fun t156 => (some (t156 == (-1)))) else (some false)) else (if bt154.1 < (mx a1 0) then (undercroftlaw07_BitsLongest.j0 k l0 a1 a2 bt154.1 bt154.2 true) else (if bt154.1 > (wrap64 ((wrap64 (8 * (l0.length : Int))) - bt154.2)) then (undercroftlaw07_BitsLongest.j0 k l0 a1 a2 bt154.1 bt154.2 true) else (if bt154.1 > (wrap64 (a2 - bt154.2)) then (undercroftlaw07_BitsLongest.j0 k l0 a1 a2 bt154.1 bt154.2 true) else ((bits_Count.f k l0 bt154.1 (wrap64 (bt154.1 + bt154.2))).bind fun t157 => (undercroftlaw07_BitsLongest.j0 k l0 a1 a2 bt154.1 bt154.2 (t157 != 0)))))))) else (some false))) = some r := h
  clear h
  replace H := Option.bind_eq_some_iff.mp H
  obtain ⟨t153, A40, H⟩ := H
  replace H : (if t153 = true then ((bits_Longest.f k l0 a1 a2).bind fun bt154 => (if bt154.2 = 0 then (if bt154.1 = (-1) then ((bits_First.f k l0 a1 a2 false).bind fun t156 => (some (t156 == (-1)))) else (some false)) else (if bt154.1 < (mx a1 0) then (undercroftlaw07_BitsLongest.j0 k l0 a1 a2 bt154.1 bt154.2 true) else (if bt154.1 > (wrap64 ((wrap64 (8 * (l0.length : Int))) - bt154.2)) then (undercroftlaw07_BitsLongest.j0 k l0 a1 a2 bt154.1 bt154.2 true) else (if bt154.1 > (wrap64 (a2 - bt154.2)) then (undercroftlaw07_BitsLongest.j0 k l0 a1 a2 bt154.1 bt154.2 true) else ((bits_Count.f k l0 bt154.1 (wrap64 (bt154.1 + bt154.2))).bind fun t157 => (undercroftlaw07_BitsLongest.j0 k l0 a1 a2 bt154.1 bt154.2 (t157 != 0)))))))) else (some false)) = some r := H
  have A4 := Aside0.mk A40
  clear A40
  by_cases c5 : t153 = true
  · subst c5
    have H1 : ((bits_Longest.f k l0 a1 a2).bind fun bt154 => (if bt154.2 = 0 then (if bt154.1 = (-1) then ((bits_First.f k l0 a1 a2 false).bind fun t156 => (some (t156 == (-1)))) else (some false)) else (if bt154.1 < (mx a1 0) then (undercroftlaw07_BitsLongest.j0 k l0 a1 a2 bt154.1 bt154.2 true) else (if bt154.1 > (wrap64 ((wrap64 (8 * (l0.length : Int))) - bt154.2)) then (undercroftlaw07_BitsLongest.j0 k l0 a1 a2 bt154.1 bt154.2 true) else (if bt154.1 > (wrap64 (a2 - bt154.2)) then (undercroftlaw07_BitsLongest.j0 k l0 a1 a2 bt154.1 bt154.2 true) else ((bits_Count.f k l0 bt154.1 (wrap64 (bt154.1 + bt154.2))).bind fun t157 => (undercroftlaw07_BitsLongest.j0 k l0 a1 a2 bt154.1 bt154.2 (t157 != 0)))))))) = some r := by rw [if_pos rfl] at H; exact H
    clear H
    have H := H1
    clear H1
    replace H := Option.bind_eq_some_iff.mp H
    obtain ⟨⟨t154, t155⟩, A60, H⟩ := H
    replace H : (if t155 = 0 then (if t154 = (-1) then ((bits_First.f k l0 a1 a2 false).bind fun t156 => (some (t156 == (-1)))) else (some false)) else (if t154 < (mx a1 0) then (undercroftlaw07_BitsLongest.j0 k l0 a1 a2 t154 t155 true) else (if t154 > (wrap64 ((wrap64 (8 * (l0.length : Int))) - t155)) then (undercroftlaw07_BitsLongest.j0 k l0 a1 a2 t154 t155 true) else (if t154 > (wrap64 (a2 - t155)) then (undercroftlaw07_BitsLongest.j0 k l0 a1 a2 t154 t155 true) else ((bits_Count.f k l0 t154 (wrap64 (t154 + t155))).bind fun t157 => (undercroftlaw07_BitsLongest.j0 k l0 a1 a2 t154 t155 (t157 != 0))))))) = some r := H
    have A6 := Aside0.mk A60
    clear A60
    by_cases c7 : t155 = 0
    · rw [if_pos c7] at H
      have c7b0 : (t155 == 0) = true := beq_iff_eq.mpr c7
      have c7b1 : (t155 != 0) = false := bne_eq_false_iff_eq.mpr c7
      clear c7
      by_cases c8 : t154 = (-1)
      rotate_left
      · rw [if_neg c8] at H
        have c8b0 : (t154 == (-1)) = false := beq_eq_false_iff_ne.mpr c8
        have c8b1 : (t154 != (-1)) = true := bne_iff_ne.mpr c8
        exact absurd (Option.some.inj H) (by rw [hT]; decide)
      rw [if_pos c8] at H
      have c8b0 : (t154 == (-1)) = true := beq_iff_eq.mpr c8
      have c8b1 : (t154 != (-1)) = false := bne_eq_false_iff_eq.mpr c8
      clear c8
      replace H := Option.bind_eq_some_iff.mp H
      obtain ⟨t156, A90, H⟩ := H
      replace H : (some (t156 == (-1))) = some r := H
      have A9 := Aside0.mk A90
      clear A90
      obtain rfl := Option.some.inj H
      go_enter Try.func6, Try.ntmps6
      go_wp2_with (first | ((with_reducible refine gate_callee (f := 9) rfl ?_); refine goesL_ (some 11) rfl rfl Try.func9 (by kernel_rfl) rfl #[] rfl (by (try simp only [List.map_toArray, List.map_cons, List.map_nil]); first | done | rfl | (simp only [List.length_drop, List.length_take]; rfl)) ?_; (with_reducible refine (undercroftlaw07_alive.calls k  true _ A4.out rfl).mono ?_); rintro e w10 ⟨rfl, hb⟩; refine ⟨_, rfl, ?_⟩; have n0_ := Aside0.mk (below_step (by repeat (first | (with_reducible first | exact HB.out | apply below_alloc | apply pw_below_drewN | apply below_drew1) | exact HB.out)) hb); clear HB; have HB := n0_; clear n0_; (try clear hb); (try clear hb2); (try clear hk); (try clear hi)) | ((with_reducible refine gate_callee (f := 10) rfl ?_); refine goesL_ (some 17) rfl rfl Try.func10 (by kernel_rfl) rfl #[.slice A0 l0.length c0, .int .i64 a1, .int .i64 a2] rfl (by (try simp only [List.map_toArray, List.map_cons, List.map_nil]); first | done | rfl | (simp only [List.length_drop, List.length_take]; rfl)) ?_; (with_reducible refine (bits_Longest.calls k _ _ l0 a1 a2 t154 t155 _ ?side1 ?side2 A6.out).mono ?_); (case side1 => repeat (first | exact (Kd.C_below HR0.out HB.out) | (with_reducible refine Kd.C_alloc ?_ _) | (with_reducible refine Kd.C_drewN ?_ _) | (with_reducible refine Kd.C_drew ?_))); (case side2 => exact HC0.out); rintro e w11 ⟨rfl, hb⟩; refine ⟨_, rfl, ?_⟩; have n0_ := Aside0.mk (below_step (by repeat (first | (with_reducible first | exact HB.out | apply below_alloc | apply pw_below_drewN | apply below_drew1) | exact HB.out)) hb); clear HB; have HB := n0_; clear n0_; (try clear hb); (try clear hb2); (try clear hk); (try clear hi)) | (go_at_call 16; (with_reducible refine (bits_First.calls k _ _ l0 a1 a2 false t156 _ ?side1 ?side2 A9.out).mono ?_); (case side1 => repeat (first | exact (Kd.C_below HR0.out HB.out) | (with_reducible refine Kd.C_alloc ?_ _) | (with_reducible refine Kd.C_drewN ?_ _) | (with_reducible refine Kd.C_drew ?_))); (case side2 => exact HC0.out); rintro e w12 ⟨rfl, hb⟩; have n0_ := Aside0.mk (below_step (by repeat (first | (with_reducible first | exact HB.out | apply below_alloc | apply pw_below_drewN | apply below_drew1) | exact HB.out)) hb); clear HB; have HB := n0_; clear n0_; (try clear hb); (try clear hb2); (try clear hk); (try clear hi)))
      go_ret
      exact ⟨by first | rfl | (simp [errW_none, errW_some] <;> rfl) | (simp [*, errW_none, errW_some] <;> rfl), by repeat (first | (with_reducible first | exact HB.out | apply below_alloc | apply pw_below_drewN | apply below_drew1) | exact HB.out)⟩
    rw [if_neg c7] at H
    have c7b0 : (t155 == 0) = false := beq_eq_false_iff_ne.mpr c7
    have c7b1 : (t155 != 0) = true := bne_iff_ne.mpr c7
    have HC15 := Aside0.mk H
    clear H
    go_enter Try.func6, Try.ntmps6
    go_upto_region 6 with (first | ((with_reducible refine gate_callee (f := 9) rfl ?_); refine goesL_ (some 11) rfl rfl Try.func9 (by kernel_rfl) rfl #[] rfl (by (try simp only [List.map_toArray, List.map_cons, List.map_nil]); first | done | rfl | (simp only [List.length_drop, List.length_take]; rfl)) ?_; (with_reducible refine (undercroftlaw07_alive.calls k  true _ A4.out rfl).mono ?_); rintro e w16 ⟨rfl, hb⟩; refine ⟨_, rfl, ?_⟩; have n0_ := Aside0.mk (below_step (by repeat (first | (with_reducible first | exact HB.out | apply below_alloc | apply pw_below_drewN | apply below_drew1) | exact HB.out)) hb); clear HB; have HB := n0_; clear n0_; (try clear hb); (try clear hb2); (try clear hk); (try clear hi)) | ((with_reducible refine gate_callee (f := 10) rfl ?_); refine goesL_ (some 17) rfl rfl Try.func10 (by kernel_rfl) rfl #[.slice A0 l0.length c0, .int .i64 a1, .int .i64 a2] rfl (by (try simp only [List.map_toArray, List.map_cons, List.map_nil]); first | done | rfl | (simp only [List.length_drop, List.length_take]; rfl)) ?_; (with_reducible refine (bits_Longest.calls k _ _ l0 a1 a2 t154 t155 _ ?side1 ?side2 A6.out).mono ?_); (case side1 => repeat (first | exact (Kd.C_below HR0.out HB.out) | (with_reducible refine Kd.C_alloc ?_ _) | (with_reducible refine Kd.C_drewN ?_ _) | (with_reducible refine Kd.C_drew ?_))); (case side2 => exact HC0.out); rintro e w17 ⟨rfl, hb⟩; refine ⟨_, rfl, ?_⟩; have n0_ := Aside0.mk (below_step (by repeat (first | (with_reducible first | exact HB.out | apply below_alloc | apply pw_below_drewN | apply below_drew1) | exact HB.out)) hb); clear HB; have HB := n0_; clear n0_; (try clear hb); (try clear hb2); (try clear hk); (try clear hi)))
    (try simp only [Act.put, List.setIfInBounds_toArray, List.set_cons_zero, List.set_cons_succ])
    go_cut [59] (fun v59 wc => ∃ (kq : Nat) (x59_14 : Bool), v59 = .bool x59_14 ∧ Aside0 (undercroftlaw07_BitsLongest.j0 kq l0 a1 a2 t154 t155 x59_14 = some r) ∧ Aside0 (kq ≤ k) ∧ Aside0 (Below w.heap.size w wc))
    case first =>
      have H := HC15.out
      clear HC15
      obtain ⟨ji18, hji18⟩ : ∃ j_ : Int, (mx a1 0) = j_ := ⟨_, rfl⟩
      replace H : (if t154 < (ji18) then (undercroftlaw07_BitsLongest.j0 k l0 a1 a2 t154 t155 true) else (if t154 > (wrap64 ((wrap64 (8 * (l0.length : Int))) - t155)) then (undercroftlaw07_BitsLongest.j0 k l0 a1 a2 t154 t155 true) else (if t154 > (wrap64 (a2 - t155)) then (undercroftlaw07_BitsLongest.j0 k l0 a1 a2 t154 t155 true) else ((bits_Count.f k l0 t154 (wrap64 (t154 + t155))).bind fun t157 => (undercroftlaw07_BitsLongest.j0 k l0 a1 a2 t154 t155 (t157 != 0)))))) = some r := by first | (rw [hji18] at H; exact H) | (simp only [hji18] at H ⊢; exact H)
      (try (have hji18l : 0 ≤ ji18 := by (rw [← hji18]; unfold mx; (repeat' split) <;> omega)))
      (try (have hji18m : 0 ≤ ji18 := by omega))
      have hji18_ : (if a1 < 0 then 0 else a1) = ji18 := hji18
      by_cases c19 : t154 < (ji18)
      · rw [if_pos c19] at H
        have c19b0 : decide (t154 < (ji18)) = true := decide_eq_true c19
        clear c19
        (first | rw [c19b0] | (simp only [i64_w, i32_w]; rw [c19b0]) | skip)
        have H' := Aside0.mk H
        clear H
        go_wp2
        go_meet
        case rel => exact ⟨_, (true), (by first | rfl | (simp; done) | (simp [*]; done)), H', ⟨by first | omega | exact Nat.le_refl _⟩, ⟨by repeat (first | (with_reducible first | exact HB.out | apply below_alloc | apply pw_below_drewN | apply below_drew1) | exact HB.out)⟩⟩
      rw [if_neg c19] at H
      have c19b0 : decide (t154 < (ji18)) = false := decide_eq_false c19
      clear c19
      (first | rw [c19b0] | (simp only [i64_w, i32_w]; rw [c19b0]) | skip)
      by_cases c20 : t154 > (wrap64 ((wrap64 (8 * (l0.length : Int))) - t155))
      · rw [if_pos c20] at H
        have c20b0 : decide ((wrap64 ((wrap64 (8 * (l0.length : Int))) - t155)) < t154) = true := decide_eq_true c20
        clear c20
        have H' := Aside0.mk H
        clear H
        go_wp2
        go_meet
        case rel => exact ⟨_, (true), (by first | rfl | (simp; done) | (simp [*]; done)), H', ⟨by first | omega | exact Nat.le_refl _⟩, ⟨by repeat (first | (with_reducible first | exact HB.out | apply below_alloc | apply pw_below_drewN | apply below_drew1) | exact HB.out)⟩⟩
      rw [if_neg c20] at H
      have c20b0 : decide ((wrap64 ((wrap64 (8 * (l0.length : Int))) - t155)) < t154) = false := decide_eq_false c20
      clear c20
      by_cases c21 : t154 > (wrap64 (a2 - t155))
      · rw [if_pos c21] at H
        have c21b0 : decide ((wrap64 (a2 - t155)) < t154) = true := decide_eq_true c21
        clear c21
        have H' := Aside0.mk H
        clear H
        go_wp2
        go_meet
        case rel => exact ⟨_, (true), (by first | rfl | (simp; done) | (simp [*]; done)), H', ⟨by first | omega | exact Nat.le_refl _⟩, ⟨by repeat (first | (with_reducible first | exact HB.out | apply below_alloc | apply pw_below_drewN | apply below_drew1) | exact HB.out)⟩⟩
      rw [if_neg c21] at H
      have c21b0 : decide ((wrap64 (a2 - t155)) < t154) = false := decide_eq_false c21
      clear c21
      replace H := Option.bind_eq_some_iff.mp H
      obtain ⟨t157, A220, H⟩ := H
      replace H : (undercroftlaw07_BitsLongest.j0 k l0 a1 a2 t154 t155 (t157 != 0)) = some r := H
      have A22 := Aside0.mk A220
      clear A220
      have H' := Aside0.mk H
      clear H
      go_wp2_with (first | (go_at_call 14; (with_reducible refine (bits_Count.calls k _ _ l0 t154 (wrap64 (t154 + t155)) t157 _ ?side1 ?side2 A22.out).mono ?_); (case side1 => repeat (first | exact (Kd.C_below HR0.out HB.out) | (with_reducible refine Kd.C_alloc ?_ _) | (with_reducible refine Kd.C_drewN ?_ _) | (with_reducible refine Kd.C_drew ?_))); (case side2 => exact HC0.out); rintro e w23 ⟨rfl, hb⟩; have n0_ := Aside0.mk (below_step (by repeat (first | (with_reducible first | exact HB.out | apply below_alloc | apply pw_below_drewN | apply below_drew1) | exact HB.out)) hb); clear HB; have HB := n0_; clear n0_; (try clear hb); (try clear hb2); (try clear hk); (try clear hi)))
      go_meet
      case rel => exact ⟨_, ((t157 != 0)), (by first | rfl | (simp; done) | (simp [*]; done)), H', ⟨by first | omega | exact Nat.le_refl _⟩, ⟨by repeat (first | (with_reducible first | exact HB.out | apply below_alloc | apply pw_below_drewN | apply below_drew1) | exact HB.out)⟩⟩
    case rest =>
      clear HC15
      try clear c1
      try clear c2
      try clear p2
      try clear c5
      try clear c6
      try clear p6
      try clear c7
      try clear c7b0
      try clear c7b1
      try clear c8
      try clear c8b0
      try clear c8b1
      try clear c9
      try clear c10
      try clear c19
      try clear c19b0
      try clear c20
      try clear c20b0
      try clear c21
      try clear c21b0
      obtain ⟨kq, x59_14, rfl, HA, HJ14, HB⟩ := hcut
      cases kq with
      | zero => exact absurd HA.out (by simp [undercroftlaw07_BitsLongest.j0])
      | succ kj14 =>
        have H := HA.out
        clear HA
        simp only [undercroftlaw07_BitsLongest.j0] at H
        by_cases c24 : x59_14 = true
        · subst c24
          have H1 : (some false) = some r := by rw [if_pos rfl] at H; exact H
          clear H
          have H := H1
          clear H1
          exact absurd (Option.some.inj H) (by rw [hT]; decide)
        replace c24 := Bool.eq_false_iff.mpr c24
        subst c24
        have H1 : (undercroftlaw07_BitsLongest.l0 kj14 l0 a2 t154 t155 0 (mx a1 0)) = some r := by rw [if_neg (show ¬ (false = true) by decide)] at H; exact H
        clear H
        have H := H1
        clear H1
        obtain ⟨ji25, hji25⟩ : ∃ j_ : Int, (mx a1 0) = j_ := ⟨_, rfl⟩
        replace H : (undercroftlaw07_BitsLongest.l0 kj14 l0 a2 t154 t155 0 ji25) = some r := by first | (rw [hji25] at H; exact H) | (simp only [hji25] at H ⊢; exact H)
        (try (have hji25l : 0 ≤ ji25 := by (rw [← hji25]; unfold mx; (repeat' split) <;> omega)))
        (try (have hji25m : 0 ≤ ji25 := by omega))
        have hji25_ : (if a1 < 0 then 0 else a1) = ji25 := hji25
        have H' := Aside0.mk H
        clear H
        go_wp2
        go_loopg [9, 10] kj14 (fun kq v9 v10 w' => ∃ (x9_2 : Int) (x10_2 : Int), v9 = .int .i64 x9_2 ∧ v10 = .int .i64 x10_2 ∧ Aside0 (undercroftlaw07_BitsLongest.l0 kq l0 a2 t154 t155 x9_2 x10_2 = some r) ∧ Aside0 (kq ≤ kj14) ∧ Aside0 (Below w.heap.size w w'))
        case atStart => exact ⟨(0), (ji25), (by first | rfl | (simp; done) | (simp [*]; done)), (by first | rfl | (simp; done) | (simp only [← hji25] <;> (first | rfl | simp)) | (simp [*]; done)), H', ⟨Nat.le_refl _⟩, ⟨by repeat (first | (with_reducible first | exact HB.out | apply below_alloc | apply pw_below_drewN | apply below_drew1) | exact HB.out)⟩⟩
        case round =>
          clear H'
          try clear c1
          try clear c2
          try clear p2
          try clear c5
          try clear c6
          try clear p6
          try clear c7
          try clear c7b0
          try clear c7b1
          try clear c8
          try clear c8b0
          try clear c8b1
          try clear c9
          try clear c10
          try clear c19
          try clear c19b0
          try clear c20
          try clear c20b0
          try clear c21
          try clear c21b0
          try clear c24
          try clear p2
          try clear p6
          obtain ⟨x9_2, x10_2, rfl, rfl, HA, HK2, HB⟩ := hrel
          cases gk with
          | zero => exact absurd HA.out (by simp [undercroftlaw07_BitsLongest.l0])
          | succ k2 =>
            have H := HA.out
            clear HA
            simp only [undercroftlaw07_BitsLongest.l0] at H
            have HC26 := Aside0.mk H
            clear H
            go_upto_region 10 with (fail)
            go_cut [71] (fun v71 wc => ∃ (kq : Nat) (x71_25 : Bool), v71 = .bool x71_25 ∧ Aside0 (undercroftlaw07_BitsLongest.j2 kq l0 a2 t154 t155 x9_2 x10_2 x71_25 = some r) ∧ Aside0 (kq ≤ k2) ∧ Aside0 (Below w.heap.size w wc))
            case first =>
              have H := HC26.out
              clear HC26
              by_cases c27 : x10_2 < a2
              rotate_left
              · rw [if_neg c27] at H
                have c27b0 : decide (x10_2 < a2) = false := decide_eq_false c27
                clear c27
                (first | rw [c27b0] | (simp only [i64_w, i32_w]; rw [c27b0]) | skip)
                have H' := Aside0.mk H
                clear H
                go_wp2
                go_meet
                case rel => exact ⟨_, (false), (by first | rfl | (simp; done) | (simp [*]; done)), H', ⟨by have := HJ14.out; have := HK2.out; first | omega | exact Nat.le_refl _⟩, ⟨by repeat (first | (with_reducible first | exact HB.out | apply below_alloc | apply pw_below_drewN | apply below_drew1) | exact HB.out)⟩⟩
              rw [if_pos c27] at H
              have c27b0 : decide (x10_2 < a2) = true := decide_eq_true c27
              clear c27
              (first | rw [c27b0] | (simp only [i64_w, i32_w]; rw [c27b0]) | skip)
              have H' := Aside0.mk H
              clear H
              go_wp2
              go_meet
              case rel => exact ⟨_, (decide (x10_2 < (wrap64 (8 * (l0.length : Int))))), (by first | rfl | (simp; done) | (simp [*]; done)), H', ⟨by have := HJ14.out; have := HK2.out; first | omega | exact Nat.le_refl _⟩, ⟨by repeat (first | (with_reducible first | exact HB.out | apply below_alloc | apply pw_below_drewN | apply below_drew1) | exact HB.out)⟩⟩
            case rest =>
              clear HC26
              try clear c1
              try clear c2
              try clear p2
              try clear c5
              try clear c6
              try clear p6
              try clear c7
              try clear c7b0
              try clear c7b1
              try clear c8
              try clear c8b0
              try clear c8b1
              try clear c9
              try clear c10
              try clear c19
              try clear c19b0
              try clear c20
              try clear c20b0
              try clear c21
              try clear c21b0
              try clear c24
              try clear c27
              try clear c27b0
              try clear p2
              try clear p6
              obtain ⟨kq, x71_25, rfl, HA, HJ25, HB⟩ := hcut
              cases kq with
              | zero => exact absurd HA.out (by simp [undercroftlaw07_BitsLongest.j2])
              | succ kj25 =>
                have H := HA.out
                clear HA
                simp only [undercroftlaw07_BitsLongest.j2] at H
                by_cases c28 : x71_25 = true
                rotate_left
                · replace c28 := Bool.eq_false_iff.mpr c28
                  subst c28
                  have H1 : (some true) = some r := by rw [if_neg (show ¬ (false = true) by decide)] at H; exact H
                  clear H
                  have H := H1
                  clear H1
                  obtain rfl := Option.some.inj H
                  go_wp2
                  go_ret
                  exact ⟨by first | rfl | (simp [errW_none, errW_some] <;> rfl) | (simp only [← hji25]; first | rfl | (simp [errW_none, errW_some] <;> rfl)) | (simp [*, errW_none, errW_some] <;> rfl), by repeat (first | (with_reducible first | exact HB.out | apply below_alloc | apply pw_below_drewN | apply below_drew1) | exact HB.out)⟩
                subst c28
                have H1 : ((bits_Get.f l0 x10_2).bind fun t158 => (if t158 = true then (if 0 > t155 then (some false) else (if 0 = t155 then (if x10_2 < (wrap64 ((wrap64 (t154 + t155)) - 1)) then (some false) else (undercroftlaw07_BitsLongest.l0 kj25 l0 a2 t154 t155 0 (wrap64 (x10_2 + 1)))) else (undercroftlaw07_BitsLongest.l0 kj25 l0 a2 t154 t155 0 (wrap64 (x10_2 + 1))))) else (if (wrap64 (x9_2 + 1)) > t155 then (some false) else (if (wrap64 (x9_2 + 1)) = t155 then (if x10_2 < (wrap64 ((wrap64 (t154 + t155)) - 1)) then (some false) else (undercroftlaw07_BitsLongest.l0 kj25 l0 a2 t154 t155 (wrap64 (x9_2 + 1)) (wrap64 (x10_2 + 1)))) else (undercroftlaw07_BitsLongest.l0 kj25 l0 a2 t154 t155 (wrap64 (x9_2 + 1)) (wrap64 (x10_2 + 1))))))) = some r := by rw [if_pos rfl] at H; exact H
                clear H
                have H := H1
                clear H1
                replace H := Option.bind_eq_some_iff.mp H
                obtain ⟨t158, A290, H⟩ := H
                replace H : (if t158 = true then (if 0 > t155 then (some false) else (if 0 = t155 then (if x10_2 < (wrap64 ((wrap64 (t154 + t155)) - 1)) then (some false) else (undercroftlaw07_BitsLongest.l0 kj25 l0 a2 t154 t155 0 (wrap64 (x10_2 + 1)))) else (undercroftlaw07_BitsLongest.l0 kj25 l0 a2 t154 t155 0 (wrap64 (x10_2 + 1))))) else (if (wrap64 (x9_2 + 1)) > t155 then (some false) else (if (wrap64 (x9_2 + 1)) = t155 then (if x10_2 < (wrap64 ((wrap64 (t154 + t155)) - 1)) then (some false) else (undercroftlaw07_BitsLongest.l0 kj25 l0 a2 t154 t155 (wrap64 (x9_2 + 1)) (wrap64 (x10_2 + 1)))) else (undercroftlaw07_BitsLongest.l0 kj25 l0 a2 t154 t155 (wrap64 (x9_2 + 1)) (wrap64 (x10_2 + 1)))))) = some r := H
                have A29 := Aside0.mk A290
                clear A290
                by_cases c30 : t158 = true
                · subst c30
                  have H1 : (if 0 > t155 then (some false) else (if 0 = t155 then (if x10_2 < (wrap64 ((wrap64 (t154 + t155)) - 1)) then (some false) else (undercroftlaw07_BitsLongest.l0 kj25 l0 a2 t154 t155 0 (wrap64 (x10_2 + 1)))) else (undercroftlaw07_BitsLongest.l0 kj25 l0 a2 t154 t155 0 (wrap64 (x10_2 + 1))))) = some r := by rw [if_pos rfl] at H; exact H
                  clear H
                  have H := H1
                  clear H1
                  by_cases c31 : 0 > t155
                  · rw [if_pos c31] at H
                    have c31b0 : decide (t155 < 0) = true := decide_eq_true c31
                    clear c31
                    exact absurd (Option.some.inj H) (by rw [hT]; decide)
                  rw [if_neg c31] at H
                  have c31b0 : decide (t155 < 0) = false := decide_eq_false c31
                  clear c31
                  by_cases c32 : 0 = t155
                  rotate_left
                  · rw [if_neg c32] at H
                    have c32b0 : (0 == t155) = false := beq_eq_false_iff_ne.mpr c32
                    have c32b1 : (0 != t155) = true := bne_iff_ne.mpr c32
                    have H' := Aside0.mk H
                    clear H
                    go_wp2_with (first | ((with_reducible refine gate_callee (f := 12) rfl ?_); refine goesL_ (some 78) rfl rfl Try.func12 (by kernel_rfl) rfl #[.slice A0 l0.length c0, .int .i64 x10_2] rfl (by (try simp only [List.map_toArray, List.map_cons, List.map_nil]); first | done | rfl | (simp only [List.length_drop, List.length_take]; rfl)) ?_; (with_reducible refine (bits_Get.calls _ _ l0 x10_2 true _ ?side1 ?side2 A29.out).mono ?_); (case side1 => repeat (first | exact (Kd.C_below HR0.out HB.out) | (with_reducible refine Kd.C_alloc ?_ _) | (with_reducible refine Kd.C_drewN ?_ _) | (with_reducible refine Kd.C_drew ?_))); (case side2 => exact HC0.out); rintro e w' ⟨rfl, ⟨nd, rfl⟩⟩; refine ⟨_, rfl, ?_⟩))
                    go_roundg kj25
                    case measure => have := HJ14.out; have := HK2.out; have := HJ25.out; omega
                    case rel => exact ⟨(0), (wrap64 (x10_2 + 1)), (by first | rfl | (simp; done) | (simp [*]; done)), (by first | rfl | (simp; done) | (simp [*]; done)), H', ⟨by have := HJ14.out; have := HK2.out; have := HJ25.out; omega⟩, ⟨by repeat (first | (with_reducible first | exact HB.out | apply below_alloc | apply pw_below_drewN | apply below_drew1) | exact HB.out)⟩⟩
                  rw [if_pos c32] at H
                  have c32b0 : (0 == t155) = true := beq_iff_eq.mpr c32
                  have c32b1 : (0 != t155) = false := bne_eq_false_iff_eq.mpr c32
                  clear c32
                  by_cases c33 : x10_2 < (wrap64 ((wrap64 (t154 + t155)) - 1))
                  · rw [if_pos c33] at H
                    have c33b0 : decide (x10_2 < (wrap64 ((wrap64 (t154 + t155)) - 1))) = true := decide_eq_true c33
                    clear c33
                    exact absurd (Option.some.inj H) (by rw [hT]; decide)
                  rw [if_neg c33] at H
                  have c33b0 : decide (x10_2 < (wrap64 ((wrap64 (t154 + t155)) - 1))) = false := decide_eq_false c33
                  clear c33
                  have H' := Aside0.mk H
                  clear H
                  go_wp2_with (first | ((with_reducible refine gate_callee (f := 12) rfl ?_); refine goesL_ (some 78) rfl rfl Try.func12 (by kernel_rfl) rfl #[.slice A0 l0.length c0, .int .i64 x10_2] rfl (by (try simp only [List.map_toArray, List.map_cons, List.map_nil]); first | done | rfl | (simp only [List.length_drop, List.length_take]; rfl)) ?_; (with_reducible refine (bits_Get.calls _ _ l0 x10_2 true _ ?side1 ?side2 A29.out).mono ?_); (case side1 => repeat (first | exact (Kd.C_below HR0.out HB.out) | (with_reducible refine Kd.C_alloc ?_ _) | (with_reducible refine Kd.C_drewN ?_ _) | (with_reducible refine Kd.C_drew ?_))); (case side2 => exact HC0.out); rintro e w' ⟨rfl, ⟨nd, rfl⟩⟩; refine ⟨_, rfl, ?_⟩))
                  go_roundg kj25
                  case measure => have := HJ14.out; have := HK2.out; have := HJ25.out; omega
                  case rel => exact ⟨(0), (wrap64 (x10_2 + 1)), (by first | rfl | (simp; done) | (simp [*]; done)), (by first | rfl | (simp; done) | (simp [*]; done)), H', ⟨by have := HJ14.out; have := HK2.out; have := HJ25.out; omega⟩, ⟨by repeat (first | (with_reducible first | exact HB.out | apply below_alloc | apply pw_below_drewN | apply below_drew1) | exact HB.out)⟩⟩
                replace c30 := Bool.eq_false_iff.mpr c30
                subst c30
                have H1 : (if (wrap64 (x9_2 + 1)) > t155 then (some false) else (if (wrap64 (x9_2 + 1)) = t155 then (if x10_2 < (wrap64 ((wrap64 (t154 + t155)) - 1)) then (some false) else (undercroftlaw07_BitsLongest.l0 kj25 l0 a2 t154 t155 (wrap64 (x9_2 + 1)) (wrap64 (x10_2 + 1)))) else (undercroftlaw07_BitsLongest.l0 kj25 l0 a2 t154 t155 (wrap64 (x9_2 + 1)) (wrap64 (x10_2 + 1))))) = some r := by rw [if_neg (show ¬ (false = true) by decide)] at H; exact H
                clear H
                have H := H1
                clear H1
                by_cases c34 : (wrap64 (x9_2 + 1)) > t155
                · rw [if_pos c34] at H
                  have c34b0 : decide (t155 < (wrap64 (x9_2 + 1))) = true := decide_eq_true c34
                  clear c34
                  exact absurd (Option.some.inj H) (by rw [hT]; decide)
                rw [if_neg c34] at H
                have c34b0 : decide (t155 < (wrap64 (x9_2 + 1))) = false := decide_eq_false c34
                clear c34
                by_cases c35 : (wrap64 (x9_2 + 1)) = t155
                rotate_left
                · rw [if_neg c35] at H
                  have c35b0 : ((wrap64 (x9_2 + 1)) == t155) = false := beq_eq_false_iff_ne.mpr c35
                  have c35b1 : ((wrap64 (x9_2 + 1)) != t155) = true := bne_iff_ne.mpr c35
                  have H' := Aside0.mk H
                  clear H
                  go_wp2_with (first | ((with_reducible refine gate_callee (f := 12) rfl ?_); refine goesL_ (some 78) rfl rfl Try.func12 (by kernel_rfl) rfl #[.slice A0 l0.length c0, .int .i64 x10_2] rfl (by (try simp only [List.map_toArray, List.map_cons, List.map_nil]); first | done | rfl | (simp only [List.length_drop, List.length_take]; rfl)) ?_; (with_reducible refine (bits_Get.calls _ _ l0 x10_2 false _ ?side1 ?side2 A29.out).mono ?_); (case side1 => repeat (first | exact (Kd.C_below HR0.out HB.out) | (with_reducible refine Kd.C_alloc ?_ _) | (with_reducible refine Kd.C_drewN ?_ _) | (with_reducible refine Kd.C_drew ?_))); (case side2 => exact HC0.out); rintro e w' ⟨rfl, ⟨nd, rfl⟩⟩; refine ⟨_, rfl, ?_⟩))
                  go_roundg kj25
                  case measure => have := HJ14.out; have := HK2.out; have := HJ25.out; omega
                  case rel => exact ⟨(wrap64 (x9_2 + 1)), (wrap64 (x10_2 + 1)), (by first | rfl | (simp; done) | (simp [*]; done)), (by first | rfl | (simp; done) | (simp [*]; done)), H', ⟨by have := HJ14.out; have := HK2.out; have := HJ25.out; omega⟩, ⟨by repeat (first | (with_reducible first | exact HB.out | apply below_alloc | apply pw_below_drewN | apply below_drew1) | exact HB.out)⟩⟩
                rw [if_pos c35] at H
                have c35b0 : ((wrap64 (x9_2 + 1)) == t155) = true := beq_iff_eq.mpr c35
                have c35b1 : ((wrap64 (x9_2 + 1)) != t155) = false := bne_eq_false_iff_eq.mpr c35
                clear c35
                by_cases c36 : x10_2 < (wrap64 ((wrap64 (t154 + t155)) - 1))
                · rw [if_pos c36] at H
                  have c36b0 : decide (x10_2 < (wrap64 ((wrap64 (t154 + t155)) - 1))) = true := decide_eq_true c36
                  clear c36
                  exact absurd (Option.some.inj H) (by rw [hT]; decide)
                rw [if_neg c36] at H
                have c36b0 : decide (x10_2 < (wrap64 ((wrap64 (t154 + t155)) - 1))) = false := decide_eq_false c36
                clear c36
                have H' := Aside0.mk H
                clear H
                go_wp2_with (first | ((with_reducible refine gate_callee (f := 12) rfl ?_); refine goesL_ (some 78) rfl rfl Try.func12 (by kernel_rfl) rfl #[.slice A0 l0.length c0, .int .i64 x10_2] rfl (by (try simp only [List.map_toArray, List.map_cons, List.map_nil]); first | done | rfl | (simp only [List.length_drop, List.length_take]; rfl)) ?_; (with_reducible refine (bits_Get.calls _ _ l0 x10_2 false _ ?side1 ?side2 A29.out).mono ?_); (case side1 => repeat (first | exact (Kd.C_below HR0.out HB.out) | (with_reducible refine Kd.C_alloc ?_ _) | (with_reducible refine Kd.C_drewN ?_ _) | (with_reducible refine Kd.C_drew ?_))); (case side2 => exact HC0.out); rintro e w' ⟨rfl, ⟨nd, rfl⟩⟩; refine ⟨_, rfl, ?_⟩))
                go_roundg kj25
                case measure => have := HJ14.out; have := HK2.out; have := HJ25.out; omega
                case rel => exact ⟨(wrap64 (x9_2 + 1)), (wrap64 (x10_2 + 1)), (by first | rfl | (simp; done) | (simp [*]; done)), (by first | rfl | (simp; done) | (simp [*]; done)), H', ⟨by have := HJ14.out; have := HK2.out; have := HJ25.out; omega⟩, ⟨by repeat (first | (with_reducible first | exact HB.out | apply below_alloc | apply pw_below_drewN | apply below_drew1) | exact HB.out)⟩⟩
  · replace c5 := Bool.eq_false_iff.mpr c5
    subst c5
    have H1 : (some false) = some r := by rw [if_neg (show ¬ (false = true) by decide)] at H; exact H
    clear H
    have H := H1
    clear H1
    exact absurd (Option.some.inj H) (by rw [hT]; decide)

/-- THE ONE PURE STATEMENT of undercroftlaw07_BitsLongest: yours. -/
def undercroftlaw07_BitsLongest.Pure : Prop := ∀ (l0 : List Int) (a1 : Int) (a2 : Int), l0.length ≤ maxLen → l0.length * 1 ≤ 140737488351232 → (∀ x ∈ l0, (Lit.int .u8 x).wf = true) → (Lit.int .i64 a1).wf = true → (Lit.int .i64 a2).wf = true → ∃ k, undercroftlaw07_BitsLongest.f k l0 a1 a2 = some true
theorem undercroftlaw07_BitsLongest.walk (P : undercroftlaw07_BitsLongest.Pure) (a0 : Option Addr) (len0 cap0 : Nat) (z0 : List Int) (a1 : Int) (a2 : Int) (w : World) (w0 : (a0 = none ∧ len0 = 0 ∧ cap0 = 0 ∧ z0 = []) ∨ ∃ x, a0 = some x ∧ len0 ≤ cap0 ∧ cap0 ≤ maxLen ∧ z0.length = cap0 ∧ (∀ i, i < z0.length → w.cell? (x.add i) = some (.int .u8 (z0.getD i 0))) ∧ ∀ n ∈ z0, (Lit.int .u8 n).wf = true) (y0 : len0 * 1 ≤ 140737488351232) (w1 : (Lit.int .i64 a1).wf = true) (w2 : (Lit.int .i64 a2).wf = true) :
    Calls Try.prog 6 #[.slice a0 len0 cap0, .int .i64 a1, .int .i64 a2] w fun e w' => e = .returned (.bool true) ∧ Below w.heap.size w w' := by
  obtain ⟨l0, rfl, hr0, hm0, hw0, hc0⟩ := ReadsInt.ofRowC w0
  obtain ⟨k, h⟩ := P l0 a1 a2 hm0 y0 hw0 w1 w2
  refine (undercroftlaw07_BitsLongest.calls k _ _ l0 a1 a2 true w (Kd.C_of_reads (d := (0 : Int)) (h1 := fun _ => rfl) hr0) hc0 h rfl).mono ?_
  rintro e w' ⟨rfl, hd⟩
  exact ⟨rfl, hd⟩

end Go.Proofs.Ytlieacllpifhkaa.U
