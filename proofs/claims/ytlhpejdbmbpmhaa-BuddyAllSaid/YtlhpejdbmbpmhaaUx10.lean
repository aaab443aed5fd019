/- Written by uprint.py (ours) for this seat: functions of the translation as Lean functions, and what their calls do. Not trusted: Lean checks it. -/
import Derived.Test.YtlhpejdbmbpmhaaUx0
import Derived.Test.YtlhpejdbmbpmhaaUx9
namespace Go.Proofs.Ytlhpejdbmbpmhaa.U
open Go.RowKit Go.Proofs.YtlhpejdbmbpmhaaW.PrintWords Go.Proofs.YtlhpejdbmbpmhaaW.PrintLast Go.Proofs.YtlhpejdbmbpmhaaW.PrintMore
attribute [local go_sem] max2_int min2_int max_two min_two max_three min_three max_four min_four   -- for this text's walks alone
set_option linter.unusedVariables false
set_option linter.unusedSimpArgs false

/-! ### undercroftref08_free: function 33 -/
def undercroftref08_free.f (k : Nat) (l0 : List Int) (a1 : Int) (a2 : Int) (a3 : Int) : Option (Bool) := if 0 ≤ a3 then (if a2 < 0 then (some false) else (if (shl .i64 1 a3) = 0 then (none) else (if (Int.tmod a2 (shl .i64 1 a3)) = 0 then (if a2 > (wrap64 (a1 - (shl .i64 1 a3))) then (some false) else ((undercroftref07_Count.f k l0 a2 (wrap64 (a2 + (shl .i64 1 a3)))).bind fun t149 => (some (t149 == 0)))) else (some false)))) else (none)
theorem undercroftref08_free.mono : ∀ a0 a1 a2 a3 k, LeO (undercroftref08_free.f k a0 a1 a2 a3) (undercroftref08_free.f (k + 1) a0 a1 a2 a3) := by
  intro a0 a1 a2 a3 k
  unfold undercroftref08_free.f
  repeat' first
      | (with_reducible exact undercroftref07_Count.mono _ _ _ _)
      | (with_reducible exact LeO.refl _)
      | (with_reducible exact LeO.none _)
      | (with_reducible refine LeO.ite ?_ ?_)
      | (with_reducible refine LeO.bind ?_ (fun _ => ?_))
      | exact undercroftref07_Count.mono _ _ _ _
      | exact LeO.none _
      | refine LeO.ite ?_ ?_
      | refine LeO.bind ?_ (fun _ => ?_)
set_option maxHeartbeats 8000000 in
set_option maxRecDepth 100000 in
theorem undercroftref08_free.calls (k : Nat) (A0 : Option Addr) (c0 : Nat) (l0 : List Int) (a1 : Int) (a2 : Int) (a3 : Int) (r : Bool) (w : World) (hr0 : Kd.C (Kd.int .u8) w A0 l0.length l0) (hc0 : l0.length ≤ c0) (h : undercroftref08_free.f k l0 a1 a2 a3 = some r) :
    Calls Try.prog 33 #[.slice A0 l0.length c0, .int .i64 a1, .int .i64 a2, .int .i64 a3] w fun e w' => e = .returned (.bool r) ∧ Below w.heap.size w w' := by
  have HR0 := Aside0.mk hr0
  have HC0 := Aside0.mk hc0
  clear hr0 hc0
  have HB := Aside0.mk (Below.refl w.heap.size w)
  have H : (if 0 ≤ a3 then (if a2 < 0 then (some false) else (if (shl .i64 1 a3) = 0 then (none) else (if (Int.tmod a2 (shl .i64 1 a3)) = 0 then (if a2 > (wrap64 (a1 - (shl .i64 1 a3))) then (some false) else ((undercroftref07_Count.f k l0 a2 (wrap64 (a2 + (shl .i64 1 a3)))).bind fun t149 => (some (t149 == 0)))) else (some false)))) else (none)) = some r := h
  clear h
  by_cases c5 : 0 ≤ a3
  · rw [if_pos c5] at H
    have c5b0 := eq_true c5
    have c5b1 : decide (0 ≤ a3) = true := decide_eq_true c5
    clear c5
    obtain ⟨ji6, hji6⟩ : ∃ j_ : Int, (shl .i64 1 a3) = j_ := ⟨_, rfl⟩
    replace H : (if a2 < 0 then (some false) else (if (ji6) = 0 then (none) else (if (Int.tmod a2 (ji6)) = 0 then (if a2 > (wrap64 (a1 - (ji6))) then (some false) else ((undercroftref07_Count.f k l0 a2 (wrap64 (a2 + (ji6)))).bind fun t149 => (some (t149 == 0)))) else (some false)))) = some r := by first | (rw [hji6] at H; exact H) | (simp only [hji6] at H ⊢; exact H)
    have hji6_ : (IntKind.i64.wrap (1 * 2 ^ min a3.toNat 64)) = ji6 := hji6
    have hji6z : a3 ≤ 64 → (IntKind.i64.wrap (1 * 2 ^ a3.toNat)) = ji6 := shl_small hji6
    have hji6u : (IntKind.i64.wrap (2 ^ min a3.toNat 64)) = ji6 := by have h_ := hji6_; rw [Int.one_mul] at h_; exact h_
    have hji6v : a3 ≤ 64 → (IntKind.i64.wrap (2 ^ a3.toNat)) = ji6 := fun hle_ => by have h_ := hji6z hle_; rw [Int.one_mul] at h_; exact h_
    have hji6y : (wrap64 (1 * 2 ^ min a3.toNat 64)) = ji6 := (i64_w _).symm.trans hji6_
    have hji6x : a3 ≤ 64 → (wrap64 (1 * 2 ^ a3.toNat)) = ji6 := fun h_ => (i64_w _).symm.trans (hji6z h_)
    by_cases c7 : a2 < 0
    · rw [if_pos c7] at H
      have c7b0 : decide (a2 < 0) = true := decide_eq_true c7
      clear c7
      obtain rfl := Option.some.inj H
      go_enter Try.func33, Try.ntmps33
      go_wp2
      go_ret
      exact ⟨by first | rfl | (simp [errW_none, errW_some] <;> rfl) | (simp only [← hji6]; first | rfl | (simp [errW_none, errW_some] <;> rfl)) | (simp [*, errW_none, errW_some] <;> rfl), by repeat (first | (with_reducible first | exact HB.out | apply below_alloc | apply pw_below_drewN | apply below_drew1) | exact HB.out)⟩
    rw [if_neg c7] at H
    have c7b0 : decide (a2 < 0) = false := decide_eq_false c7
    clear c7
    by_cases c8 : (ji6) = 0
    · rw [if_pos c8] at H
      exact absurd H (by simp)
    rw [if_neg c8] at H
    have c8b0 : ((ji6) == 0) = false := beq_eq_false_iff_ne.mpr c8
    have c8b1 : ((ji6) != 0) = true := bne_iff_ne.mpr c8
    by_cases c9 : (Int.tmod a2 (ji6)) = 0
    rotate_left
    · rw [if_neg c9] at H
      have c9b0 : ((Int.tmod a2 (ji6)) == 0) = false := beq_eq_false_iff_ne.mpr c9
      have c9b1 : ((Int.tmod a2 (ji6)) != 0) = true := bne_iff_ne.mpr c9
      obtain rfl := Option.some.inj H
      go_enter Try.func33, Try.ntmps33
      go_wp2
      go_ret
      exact ⟨by first | rfl | (simp [errW_none, errW_some] <;> rfl) | (simp only [← hji6]; first | rfl | (simp [errW_none, errW_some] <;> rfl)) | (simp [*, errW_none, errW_some] <;> rfl), by repeat (first | (with_reducible first | exact HB.out | apply below_alloc | apply pw_below_drewN | apply below_drew1) | exact HB.out)⟩
    rw [if_pos c9] at H
    have c9b0 : ((Int.tmod a2 (ji6)) == 0) = true := beq_iff_eq.mpr c9
    have c9b1 : ((Int.tmod a2 (ji6)) != 0) = false := bne_eq_false_iff_eq.mpr c9
    clear c9
    by_cases c10 : a2 > (wrap64 (a1 - (ji6)))
    · rw [if_pos c10] at H
      have c10b0 : decide ((wrap64 (a1 - (ji6))) < a2) = true := decide_eq_true c10
      clear c10
      obtain rfl := Option.some.inj H
      go_enter Try.func33, Try.ntmps33
      go_wp2
      go_ret
      exact ⟨by first | rfl | (simp [errW_none, errW_some] <;> rfl) | (simp only [← hji6]; first | rfl | (simp [errW_none, errW_some] <;> rfl)) | (simp [*, errW_none, errW_some] <;> rfl), by repeat (first | (with_reducible first | exact HB.out | apply below_alloc | apply pw_below_drewN | apply below_drew1) | exact HB.out)⟩
    rw [if_neg c10] at H
    have c10b0 : decide ((wrap64 (a1 - (ji6))) < a2) = false := decide_eq_false c10
    clear c10
    replace H := Option.bind_eq_some_iff.mp H
    obtain ⟨t149, A110, H⟩ := H
    replace H : (some (t149 == 0)) = some r := H
    have A11 := Aside0.mk A110
    clear A110
    obtain rfl := Option.some.inj H
    go_enter Try.func33, Try.ntmps33
    go_wp2_with (first | ((with_reducible refine gate_callee (f := 32) rfl ?_); refine goesL_ (some 32) rfl rfl Try.func32 (by kernel_rfl) rfl #[.slice A0 l0.length c0, .int .i64 a2, .int .i64 (wrap64 (a2 + (ji6)))] rfl (by (try simp only [List.map_toArray, List.map_cons, List.map_nil]); first | done | (simp only [hji6]; rfl) | rfl | (simp only [List.length_drop, List.length_take]; rfl)) ?_; (with_reducible refine (undercroftref07_Count.calls k _ _ l0 a2 (wrap64 (a2 + (ji6))) t149 _ ?side1 ?side2 A11.out).mono ?_); (case side1 => repeat (first | exact HR0.out | (with_reducible refine Kd.C_alloc ?_ _) | (with_reducible refine Kd.C_drewN ?_ _) | (with_reducible refine Kd.C_drew ?_))); (case side2 => exact HC0.out); rintro e w12 ⟨rfl, hb⟩; refine ⟨_, rfl, ?_⟩; have n0_ := Aside0.mk (below_step (by repeat (first | (with_reducible first | exact HB.out | apply below_alloc | apply pw_below_drewN | apply below_drew1) | exact HB.out)) hb); clear HB; have HB := n0_; clear n0_; (try clear hb); (try clear hb2); (try clear hk); (try clear hi)))
    go_ret
    exact ⟨by first | rfl | (simp [errW_none, errW_some] <;> rfl) | (simp only [← hji6]; first | rfl | (simp [errW_none, errW_some] <;> rfl)) | (simp [*, errW_none, errW_some] <;> rfl), by repeat (first | (with_reducible first | exact HB.out | apply below_alloc | apply pw_below_drewN | apply below_drew1) | exact HB.out)⟩
  · rw [if_neg c5] at H
    exact absurd H (by simp)

end Go.Proofs.Ytlhpejdbmbpmhaa.U
