/- Written by uprint.py (ours) for this seat: functions of the translation as Lean functions, and what their calls do. Not trusted: Lean checks it. -/
import Derived.Test.YtlieacllpifhkaaUx0
import Derived.Test.YtlieacllpifhkaaUx2
import Derived.Test.YtlieacllpifhkaaUx3
import Derived.Test.YtlieacllpifhkaaUx4
import Derived.Test.YtlieacllpifhkaaUx6
import Derived.Test.YtlieacllpifhkaaUx7
import Derived.Test.YtlieacllpifhkaaUx8
namespace Go.Proofs.Ytlieacllpifhkaa.U
open Go.RowKit Go.Proofs.YtlieacllpifhkaaW.PrintWords Go.Proofs.YtlieacllpifhkaaW.PrintLast Go.Proofs.YtlieacllpifhkaaW.PrintMore
attribute [local go_sem] max2_int min2_int max_two min_two max_three min_three max_four min_four   -- for this text's walks alone
set_option linter.unusedVariables false
set_option linter.unusedSimpArgs false

/-! ### undercroftlaw07_BitsTells: function 3 -/
def undercroftlaw07_BitsTells.f (k : Nat) (l0 : List Int) (a1 : Int) (a2 : Int) : Option (Bool) := (undercroftlaw07_alive.f k).bind fun t128 => (if t128 = true then ((some (([] : List Int) : List Int)).bind fun y129 => (if y129.length + l0.length < 140737488355328 then ((some (y129 ++ l0 : List Int)).bind fun y132 => ((bits_Longest.f k y132 a1 a2).bind fun bt135 => ((undercroftref07_Longest.f k l0 a1 a2).bind fun bt137 => ((bits_Get.f y132 a1).bind fun t139 => ((undercroftref07_Get.f l0 a1).bind fun t140 => (if (t139 == t140) = true then ((bits_Count.f k y132 a1 a2).bind fun t141 => ((undercroftref07_Count.f k l0 a1 a2).bind fun t142 => (if t141 = t142 then ((bits_First.f k y132 a1 a2 true).bind fun t143 => ((undercroftref07_First.f k l0 a1 a2 true).bind fun t144 => (if t143 = t144 then ((bits_First.f k y132 a1 a2 false).bind fun t145 => ((undercroftref07_First.f k l0 a1 a2 false).bind fun t146 => (if t145 = t146 then (if bt135.1 = bt137.1 then (if bt135.2 = bt137.2 then (some ((strOfNums y132).toList == (strOfNums l0).toList)) else (some false)) else (some false)) else (some false)))) else (some false)))) else (some false)))) else (some false))))))) else (none))) else (some false))
theorem undercroftlaw07_BitsTells.mono : ∀ a0 a1 a2 k, LeO (undercroftlaw07_BitsTells.f k a0 a1 a2) (undercroftlaw07_BitsTells.f (k + 1) a0 a1 a2) := by
  intro a0 a1 a2 k
  unfold undercroftlaw07_BitsTells.f
  repeat' first
      | (with_reducible exact bits_Count.mono _ _ _ _)
      | (with_reducible exact bits_First.mono _ _ _ _ _)
      | (with_reducible exact bits_Longest.mono _ _ _ _)
      | (with_reducible exact undercroftlaw07_alive.mono _)
      | (with_reducible exact undercroftref07_Count.mono _ _ _ _)
      | (with_reducible exact undercroftref07_First.mono _ _ _ _ _)
      | (with_reducible exact undercroftref07_Longest.mono _ _ _ _)
      | (with_reducible exact LeO.refl _)
      | (with_reducible exact LeO.none _)
      | (with_reducible refine LeO.ite ?_ ?_)
      | (with_reducible refine LeO.bind ?_ (fun _ => ?_))
      | exact bits_Count.mono _ _ _ _
      | exact bits_First.mono _ _ _ _ _
      | exact bits_Longest.mono _ _ _ _
      | exact undercroftlaw07_alive.mono _
      | exact undercroftref07_Count.mono _ _ _ _
      | exact undercroftref07_First.mono _ _ _ _ _
      | exact undercroftref07_Longest.mono _ _ _ _
      | exact LeO.none _
      | refine LeO.ite ?_ ?_
      | refine LeO.bind ?_ (fun _ => ?_)
set_option maxHeartbeats 8000000 in
set_option maxRecDepth 100000 in
theorem undercroftlaw07_BitsTells.calls (k : Nat) (A0 : Option Addr) (c0 : Nat) (l0 : List Int) (a1 : Int) (a2 : Int) (r : Bool) (w : World) (hr0 : Kd.C (Kd.int .u8) w A0 l0.length l0) (hc0 : l0.length ≤ c0) (h : undercroftlaw07_BitsTells.f k l0 a1 a2 = some r) (hT : r = true) :
    Calls Try.prog 3 #[.slice A0 l0.length c0, .int .i64 a1, .int .i64 a2] w fun e w' => e = .returned (.bool r) ∧ Below w.heap.size w w' := by
  have HR0 := Aside0.mk hr0
  have HC0 := Aside0.mk hc0
  clear hr0 hc0
  have HB := Aside0.mk (Below.refl w.heap.size w)
  have H : ((undercroftlaw07_alive.f k).bind fun t128 => (if t128 = true then ((some (([] : List Int) : List Int)).bind fun y129 => (if y129.length + l0.length < 140737488355328 then ((some (y129 ++ l0 : List Int)).bind fun y132 => ((bits_Longest.f k y132 a1 a2).bind fun bt135 => ((undercroftref07_Longest.f k l0 a1 a2).bind fun bt137 => ((bits_Get.f y132 a1).bind fun t139 => ((undercroftref07_Get.f l0 a1).bind fun t140 => (if (t139 == t140) = true then ((bits_Count.f k y132 a1 a2).bind fun t141 => ((undercroftref07_Count.f k l0 a1 a2).bind fun t142 => (if t141 = t142 then ((bits_First.f k y132 a1 a2 true).bind fun t143 => ((undercroftref07_First.f k l0 a1 a2 true).bind fun t144 => (if t143 = t144 then ((bits_First.f k y132 a1 a2 false).bind fun t145 => ((undercroftref07_First.f k l0 a1 a2 false).bind fun t146 => (if t145 = t146 then (if bt135.1 = bt137.1 then (if bt135.2 = bt137.2 then (some ((strOfNums y132).toList == (strOfNums l0).toList)) else (some false)) else (some false)) else (some false)))) else (some false)))) else (some false)))) else (some false))))))) else (none))) else (some false))) = some r := h
  clear h
  replace H := Option.bind_eq_some_iff.mp H
  obtain ⟨t128, A40, H⟩ := H
  replace H : (if t128 = true then ((some (([] : List Int) : List Int)).bind fun y129 => (if y129.length + l0.length < 140737488355328 then ((some (y129 ++ l0 : List Int)).bind fun y132 => ((bits_Longest.f k y132 a1 a2).bind fun bt135 => ((undercroftref07_Longest.f k l0 a1 a2).bind fun bt137 => ((bits_Get.f y132 a1).bind fun t139 => ((undercroftref07_Get.f l0 a1).bind fun t140 => (if (t139 == t140) = true then ((bits_Count.f k y132 a1 a2).bind fun t141 => ((undercroftref07_Count.f k l0 a1 a2).bind fun t142 => (if t141 = t142 then ((bits_First.f k y132 a1 a2 true).bind fun t143 => ((undercroftref07_First.f k l0 a1 a2 true).bind fun t144 => (if t143 = t144 then ((bits_First.f k y132 a1 a2 false).bind fun t145 => ((undercroftref07_First.f k l0 a1 a2 false).bind fun t146 => (if t145 = t146 then (if bt135.1 = bt137.1 then (if bt135.2 = bt137.2 then (some ((strOfNums y132).toList == (strOfNums l0).toList)) else (some false)) else (some false)) else (some false)))) else (some false)))) else (some false)))) else (some false))))))) else (none))) else (some false)) = some r := H
  have A4 := Aside0.mk A40
  clear A40
  by_cases c5 : t128 = true
  · subst c5
    have H1 : ((some (([] : List Int) : List Int)).bind fun y129 => (if y129.length + l0.length < 140737488355328 then ((some (y129 ++ l0 : List Int)).bind fun y132 => ((bits_Longest.f k y132 a1 a2).bind fun bt135 => ((undercroftref07_Longest.f k l0 a1 a2).bind fun bt137 => ((bits_Get.f y132 a1).bind fun t139 => ((undercroftref07_Get.f l0 a1).bind fun t140 => (if (t139 == t140) = true then ((bits_Count.f k y132 a1 a2).bind fun t141 => ((undercroftref07_Count.f k l0 a1 a2).bind fun t142 => (if t141 = t142 then ((bits_First.f k y132 a1 a2 true).bind fun t143 => ((undercroftref07_First.f k l0 a1 a2 true).bind fun t144 => (if t143 = t144 then ((bits_First.f k y132 a1 a2 false).bind fun t145 => ((undercroftref07_First.f k l0 a1 a2 false).bind fun t146 => (if t145 = t146 then (if bt135.1 = bt137.1 then (if bt135.2 = bt137.2 then (some ((strOfNums y132).toList == (strOfNums l0).toList)) else (some false)) else (some false)) else (some false)))) else (some false)))) else (some false)))) else (some false))))))) else (none))) = some r := by rw [if_pos rfl] at H; exact H
    clear H
    have H := H1
    clear H1
    obtain ⟨y129, hy129⟩ : ∃ y_ : List Int, y_ = (([] : List Int)) := ⟨_, rfl⟩
    replace H : (if y129.length + l0.length < 140737488355328 then ((some (y129 ++ l0 : List Int)).bind fun y132 => ((bits_Longest.f k y132 a1 a2).bind fun bt135 => ((undercroftref07_Longest.f k l0 a1 a2).bind fun bt137 => ((bits_Get.f y132 a1).bind fun t139 => ((undercroftref07_Get.f l0 a1).bind fun t140 => (if (t139 == t140) = true then ((bits_Count.f k y132 a1 a2).bind fun t141 => ((undercroftref07_Count.f k l0 a1 a2).bind fun t142 => (if t141 = t142 then ((bits_First.f k y132 a1 a2 true).bind fun t143 => ((undercroftref07_First.f k l0 a1 a2 true).bind fun t144 => (if t143 = t144 then ((bits_First.f k y132 a1 a2 false).bind fun t145 => ((undercroftref07_First.f k l0 a1 a2 false).bind fun t146 => (if t145 = t146 then (if bt135.1 = bt137.1 then (if bt135.2 = bt137.2 then (some ((strOfNums y132).toList == (strOfNums l0).toList)) else (some false)) else (some false)) else (some false)))) else (some false)))) else (some false)))) else (some false))))))) else (none)) = some r := by first | (rw [hy129]; with_reducible exact H) | (have H2_ := (Option.bind_some _ _).symm.trans H; rw [hy129]; with_reducible exact H2_) | (have H2_ := (Option.bind_some _ _).symm.trans H; with_reducible exact H2_) | with_reducible exact H | (rw [hy129]; exact H) | exact H
    have Ny129 := Aside0.mk hy129
    clear hy129
    by_cases c6 : y129.length + l0.length < 140737488355328
    rotate_left
    · rw [if_neg c6] at H
      exact absurd H (by simp)
    rw [if_pos c6] at H
    have LMc6 := Aside0.mk c6
    clear c6
    obtain ⟨y132, hy132⟩ : ∃ y_ : List Int, y_ = (y129 ++ l0) := ⟨_, rfl⟩
    replace H : ((bits_Longest.f k y132 a1 a2).bind fun bt135 => ((undercroftref07_Longest.f k l0 a1 a2).bind fun bt137 => ((bits_Get.f y132 a1).bind fun t139 => ((undercroftref07_Get.f l0 a1).bind fun t140 => (if (t139 == t140) = true then ((bits_Count.f k y132 a1 a2).bind fun t141 => ((undercroftref07_Count.f k l0 a1 a2).bind fun t142 => (if t141 = t142 then ((bits_First.f k y132 a1 a2 true).bind fun t143 => ((undercroftref07_First.f k l0 a1 a2 true).bind fun t144 => (if t143 = t144 then ((bits_First.f k y132 a1 a2 false).bind fun t145 => ((undercroftref07_First.f k l0 a1 a2 false).bind fun t146 => (if t145 = t146 then (if bt135.1 = bt137.1 then (if bt135.2 = bt137.2 then (some ((strOfNums y132).toList == (strOfNums l0).toList)) else (some false)) else (some false)) else (some false)))) else (some false)))) else (some false)))) else (some false)))))) = some r := by first | (rw [hy132]; with_reducible exact H) | (have H2_ := (Option.bind_some _ _).symm.trans H; rw [hy132]; with_reducible exact H2_) | (have H2_ := (Option.bind_some _ _).symm.trans H; with_reducible exact H2_) | with_reducible exact H | (rw [hy132]; exact H) | exact H
    have Ny132 := Aside0.mk hy132
    clear hy132
    replace H := Option.bind_eq_some_iff.mp H
    obtain ⟨⟨t135, t136⟩, A70, H⟩ := H
    replace H : ((undercroftref07_Longest.f k l0 a1 a2).bind fun bt137 => ((bits_Get.f y132 a1).bind fun t139 => ((undercroftref07_Get.f l0 a1).bind fun t140 => (if (t139 == t140) = true then ((bits_Count.f k y132 a1 a2).bind fun t141 => ((undercroftref07_Count.f k l0 a1 a2).bind fun t142 => (if t141 = t142 then ((bits_First.f k y132 a1 a2 true).bind fun t143 => ((undercroftref07_First.f k l0 a1 a2 true).bind fun t144 => (if t143 = t144 then ((bits_First.f k y132 a1 a2 false).bind fun t145 => ((undercroftref07_First.f k l0 a1 a2 false).bind fun t146 => (if t145 = t146 then (if t135 = bt137.1 then (if t136 = bt137.2 then (some ((strOfNums y132).toList == (strOfNums l0).toList)) else (some false)) else (some false)) else (some false)))) else (some false)))) else (some false)))) else (some false))))) = some r := H
    have A7 := Aside0.mk A70
    clear A70
    replace H := Option.bind_eq_some_iff.mp H
    obtain ⟨⟨t137, t138⟩, A80, H⟩ := H
    replace H : ((bits_Get.f y132 a1).bind fun t139 => ((undercroftref07_Get.f l0 a1).bind fun t140 => (if (t139 == t140) = true then ((bits_Count.f k y132 a1 a2).bind fun t141 => ((undercroftref07_Count.f k l0 a1 a2).bind fun t142 => (if t141 = t142 then ((bits_First.f k y132 a1 a2 true).bind fun t143 => ((undercroftref07_First.f k l0 a1 a2 true).bind fun t144 => (if t143 = t144 then ((bits_First.f k y132 a1 a2 false).bind fun t145 => ((undercroftref07_First.f k l0 a1 a2 false).bind fun t146 => (if t145 = t146 then (if t135 = t137 then (if t136 = t138 then (some ((strOfNums y132).toList == (strOfNums l0).toList)) else (some false)) else (some false)) else (some false)))) else (some false)))) else (some false)))) else (some false)))) = some r := H
    have A8 := Aside0.mk A80
    clear A80
    replace H := Option.bind_eq_some_iff.mp H
    obtain ⟨t139, A90, H⟩ := H
    replace H : ((undercroftref07_Get.f l0 a1).bind fun t140 => (if (t139 == t140) = true then ((bits_Count.f k y132 a1 a2).bind fun t141 => ((undercroftref07_Count.f k l0 a1 a2).bind fun t142 => (if t141 = t142 then ((bits_First.f k y132 a1 a2 true).bind fun t143 => ((undercroftref07_First.f k l0 a1 a2 true).bind fun t144 => (if t143 = t144 then ((bits_First.f k y132 a1 a2 false).bind fun t145 => ((undercroftref07_First.f k l0 a1 a2 false).bind fun t146 => (if t145 = t146 then (if t135 = t137 then (if t136 = t138 then (some ((strOfNums y132).toList == (strOfNums l0).toList)) else (some false)) else (some false)) else (some false)))) else (some false)))) else (some false)))) else (some false))) = some r := H
    have A9 := Aside0.mk A90
    clear A90
    replace H := Option.bind_eq_some_iff.mp H
    obtain ⟨t140, A100, H⟩ := H
    replace H : (if (t139 == t140) = true then ((bits_Count.f k y132 a1 a2).bind fun t141 => ((undercroftref07_Count.f k l0 a1 a2).bind fun t142 => (if t141 = t142 then ((bits_First.f k y132 a1 a2 true).bind fun t143 => ((undercroftref07_First.f k l0 a1 a2 true).bind fun t144 => (if t143 = t144 then ((bits_First.f k y132 a1 a2 false).bind fun t145 => ((undercroftref07_First.f k l0 a1 a2 false).bind fun t146 => (if t145 = t146 then (if t135 = t137 then (if t136 = t138 then (some ((strOfNums y132).toList == (strOfNums l0).toList)) else (some false)) else (some false)) else (some false)))) else (some false)))) else (some false)))) else (some false)) = some r := H
    have A10 := Aside0.mk A100
    clear A100
    by_cases c11 : (t139 == t140) = true
    rotate_left
    · rw [if_neg c11] at H
      have c11b0 : (t139 == t140) = false := by simpa using c11
      (try (have c11b1 : decide (t139 = t140) = false := by simpa using c11))
      (try (have c11b2 : (t139 == t140) = false := by simpa using c11))
      (try (have c11b3 : ¬ (t139 = t140) := by simpa using c11))
      clear c11
      exact absurd (Option.some.inj H) (by rw [hT]; decide)
    rw [if_pos c11] at H
    have c11b0 : (t139 == t140) = true := c11
    (try (have c11b1 : decide (t139 = t140) = true := by simpa using c11))
    (try (have c11b2 : (t139 == t140) = true := by simpa using c11))
    clear c11
    replace H := Option.bind_eq_some_iff.mp H
    obtain ⟨t141, A120, H⟩ := H
    replace H : ((undercroftref07_Count.f k l0 a1 a2).bind fun t142 => (if t141 = t142 then ((bits_First.f k y132 a1 a2 true).bind fun t143 => ((undercroftref07_First.f k l0 a1 a2 true).bind fun t144 => (if t143 = t144 then ((bits_First.f k y132 a1 a2 false).bind fun t145 => ((undercroftref07_First.f k l0 a1 a2 false).bind fun t146 => (if t145 = t146 then (if t135 = t137 then (if t136 = t138 then (some ((strOfNums y132).toList == (strOfNums l0).toList)) else (some false)) else (some false)) else (some false)))) else (some false)))) else (some false))) = some r := H
    have A12 := Aside0.mk A120
    clear A120
    replace H := Option.bind_eq_some_iff.mp H
    obtain ⟨t142, A130, H⟩ := H
    replace H : (if t141 = t142 then ((bits_First.f k y132 a1 a2 true).bind fun t143 => ((undercroftref07_First.f k l0 a1 a2 true).bind fun t144 => (if t143 = t144 then ((bits_First.f k y132 a1 a2 false).bind fun t145 => ((undercroftref07_First.f k l0 a1 a2 false).bind fun t146 => (if t145 = t146 then (if t135 = t137 then (if t136 = t138 then (some ((strOfNums y132).toList == (strOfNums l0).toList)) else (some false)) else (some false)) else (some false)))) else (some false)))) else (some false)) = some r := H
    have A13 := Aside0.mk A130
    clear A130
    by_cases c14 : t141 = t142
    rotate_left
    · rw [if_neg c14] at H
      have c14b0 : (t141 == t142) = false := beq_eq_false_iff_ne.mpr c14
      have c14b1 : (t141 != t142) = true := bne_iff_ne.mpr c14
      exact absurd (Option.some.inj H) (by rw [hT]; decide)
    rw [if_pos c14] at H
    have c14b0 : (t141 == t142) = true := beq_iff_eq.mpr c14
    have c14b1 : (t141 != t142) = false := bne_eq_false_iff_eq.mpr c14
    clear c14
    replace H := Option.bind_eq_some_iff.mp H
    obtain ⟨t143, A150, H⟩ := H
    replace H : ((undercroftref07_First.f k l0 a1 a2 true).bind fun t144 => (if t143 = t144 then ((bits_First.f k y132 a1 a2 false).bind fun t145 => ((undercroftref07_First.f k l0 a1 a2 false).bind fun t146 => (if t145 = t146 then (if t135 = t137 then (if t136 = t138 then (some ((strOfNums y132).toList == (strOfNums l0).toList)) else (some false)) else (some false)) else (some false)))) else (some false))) = some r := H
    have A15 := Aside0.mk A150
    clear A150
    replace H := Option.bind_eq_some_iff.mp H
    obtain ⟨t144, A160, H⟩ := H
    replace H : (if t143 = t144 then ((bits_First.f k y132 a1 a2 false).bind fun t145 => ((undercroftref07_First.f k l0 a1 a2 false).bind fun t146 => (if t145 = t146 then (if t135 = t137 then (if t136 = t138 then (some ((strOfNums y132).toList == (strOfNums l0).toList)) else (some false)) else (some false)) else (some false)))) else (some false)) = some r := H
    have A16 := Aside0.mk A160
    clear A160
    by_cases c17 : t143 = t144
    rotate_left
    · rw [if_neg c17] at H
      have c17b0 : (t143 == t144) = false := beq_eq_false_iff_ne.mpr c17
      have c17b1 : (t143 != t144) = true := bne_iff_ne.mpr c17
      exact absurd (Option.some.inj H) (by rw [hT]; decide)
    rw [if_pos c17] at H
    have c17b0 : (t143 == t144) = true := beq_iff_eq.mpr c17
    have c17b1 : (t143 != t144) = false := bne_eq_false_iff_eq.mpr c17
    clear c17
    replace H := Option.bind_eq_some_iff.mp H
    obtain ⟨t145, A180, H⟩ := H
    replace H : ((undercroftref07_First.f k l0 a1 a2 false).bind fun t146 => (if t145 = t146 then (if t135 = t137 then (if t136 = t138 then (some ((strOfNums y132).toList == (strOfNums l0).toList)) else (some false)) else (some false)) else (some false))) = some r := H
    have A18 := Aside0.mk A180
    clear A180
    replace H := Option.bind_eq_some_iff.mp H
    obtain ⟨t146, A190, H⟩ := H
    replace H : (if t145 = t146 then (if t135 = t137 then (if t136 = t138 then (some ((strOfNums y132).toList == (strOfNums l0).toList)) else (some false)) else (some false)) else (some false)) = some r := H
    have A19 := Aside0.mk A190
    clear A190
    by_cases c20 : t145 = t146
    rotate_left
    · rw [if_neg c20] at H
      have c20b0 : (t145 == t146) = false := beq_eq_false_iff_ne.mpr c20
      have c20b1 : (t145 != t146) = true := bne_iff_ne.mpr c20
      exact absurd (Option.some.inj H) (by rw [hT]; decide)
    rw [if_pos c20] at H
    have c20b0 : (t145 == t146) = true := beq_iff_eq.mpr c20
    have c20b1 : (t145 != t146) = false := bne_eq_false_iff_eq.mpr c20
    clear c20
    by_cases c21 : t135 = t137
    rotate_left
    · rw [if_neg c21] at H
      have c21b0 : (t135 == t137) = false := beq_eq_false_iff_ne.mpr c21
      have c21b1 : (t135 != t137) = true := bne_iff_ne.mpr c21
      exact absurd (Option.some.inj H) (by rw [hT]; decide)
    rw [if_pos c21] at H
    have c21b0 : (t135 == t137) = true := beq_iff_eq.mpr c21
    have c21b1 : (t135 != t137) = false := bne_eq_false_iff_eq.mpr c21
    clear c21
    by_cases c22 : t136 = t138
    rotate_left
    · rw [if_neg c22] at H
      have c22b0 : (t136 == t138) = false := beq_eq_false_iff_ne.mpr c22
      have c22b1 : (t136 != t138) = true := bne_iff_ne.mpr c22
      exact absurd (Option.some.inj H) (by rw [hT]; decide)
    rw [if_pos c22] at H
    have c22b0 : (t136 == t138) = true := beq_iff_eq.mpr c22
    have c22b1 : (t136 != t138) = false := bne_eq_false_iff_eq.mpr c22
    clear c22
    obtain rfl := Option.some.inj H
    go_enter Try.func3, Try.ntmps3
    go_wp2_with (first | ((with_reducible refine gate_callee (f := 9) rfl ?_); refine goesL_ (some 12) rfl rfl Try.func9 (by kernel_rfl) rfl #[] rfl (by (try simp only [List.map_toArray, List.map_cons, List.map_nil]); first | done | rfl | (simp only [List.length_drop, List.length_take]; rfl)) ?_; (with_reducible refine (undercroftlaw07_alive.calls k  true _ A4.out rfl).mono ?_); rintro e w23 ⟨rfl, hb⟩; refine ⟨_, rfl, ?_⟩; have n0_ := Aside0.mk (below_step (by repeat (first | (with_reducible first | exact HB.out | apply below_alloc | apply pw_below_drewN | apply below_drew1) | exact HB.out)) hb); clear HB; have HB := n0_; clear n0_; (try clear hb); (try clear hb2); (try clear hk); (try clear hi)) | ((with_reducible refine gate_dst (N := 14) rfl ?_); refine Kd.R_lit (Kd.int .u8) _ 5 ?hg (N := 14) ?hd (xs := ([] : List Int)) (inner := []) (ok := fun _ => True) (okp := fun _ => True) ?hr ?hp (fun _ hk => hk) trivial (Below.refl _ _) (Nat.le_refl _) (by simp) ?_; (case hd => rfl); (case hg => rfl); (case hr => go_simp; first | done | rfl); (case hp => exact (Reps.none _ _)); intro v130 w24 ho25 hb hg_ hnew_; clear hg_ hnew_; (first | rw [← Ny129.out] at ho25 | (simp only [Int.reduceToNat] at ho25; rw [← Ny129.out] at ho25)); have n0_ := Aside0.mk (Kd.R_lower ho25 (below_size (by repeat (first | (with_reducible first | exact HB.out | apply below_alloc | apply pw_below_drewN | apply below_drew1) | exact HB.out)))); have n1_ := Aside0.mk (below_step (by repeat (first | (with_reducible first | exact HB.out | apply below_alloc | apply pw_below_drewN | apply below_drew1) | exact HB.out)) hb); clear HB; have HO131 := n0_; have HB := n1_; clear n0_ n1_; clear hb ho25) | ((with_reducible refine gate_builtin (b := .append) (xs := #[.tmp 14, .tmp 15]) rfl ?_); at_builtin; refine Kd.R_append_rows (Kd.int .u8) (w0 := w) w.heap.size rfl (.tmp 14) (.tmp 15) 22 5 (.int .u8 0) 1 rfl Try.underlying22 info5 rfl (by decide) (by omega) v130 y129 l0 _ _ _ (fun _ => True) (fun _ => False) rfl rfl ?aO ?aR (fun _ _ h => h) (fun _ h => h.elim) ?aF ?aB ?aS ?aL ?_; (case aR => repeat (first | exact (Kd.C_below HR0.out HB.out) | (with_reducible refine Kd.C_alloc ?_ _) | (with_reducible refine Kd.C_drewN ?_ _) | (with_reducible refine Kd.C_drew ?_))); (case aB => exact (by repeat (first | (with_reducible first | exact HB.out | apply below_alloc | apply pw_below_drewN | apply below_drew1) | exact HB.out))); (case aF => exact (fun _ _ => trivial)); (case aO => exact (by (with_reducible repeat (first | apply Kd.R_alloc | apply Kd.R_drewN | apply Kd.R_drew)); exact HO131.out)); (case aS => exact (below_size (by repeat (first | (with_reducible first | exact HB.out | apply below_alloc | apply pw_below_drewN | apply below_drew1) | exact HB.out)))); (case aL => have := LMc6.out; omega); intro v133 w26 ho hb hg hat; rw [← Ny132.out] at ho; have n0_ := Aside0.mk (hb); have n1_ := Aside0.mk (ho); clear HB; clear HO131; have HB := n0_; have HO134 := n1_; clear n0_ n1_; clear ho hb hg hat; obtain ⟨Ao27, co27, eo27⟩ := Kd.R_slice HO134.out; subst eo27) | ((with_reducible refine gate_callee (f := 10) rfl ?_); refine goesL_ (some 21) rfl rfl Try.func10 (by kernel_rfl) rfl #[.slice Ao27 y132.length co27, .int .i64 a1, .int .i64 a2] rfl (by (try simp only [List.map_toArray, List.map_cons, List.map_nil]); first | done | rfl | (simp only [List.length_drop, List.length_take]; rfl)) ?_; (with_reducible refine (bits_Longest.calls k _ _ y132 a1 a2 t135 t136 _ ?side1 ?side2 A7.out).mono ?_); (case side1 => repeat (first | exact (Kd.R_reads' HO134.out).2.2 | (with_reducible refine Kd.C_alloc ?_ _) | (with_reducible refine Kd.C_drewN ?_ _) | (with_reducible refine Kd.C_drew ?_))); (case side2 => exact (Kd.R_reads' HO134.out).2.1); rintro e w28 ⟨rfl, hb⟩; refine ⟨_, rfl, ?_⟩; have n0_ := Aside0.mk (Kd.R_below (by (with_reducible repeat (first | apply Kd.R_alloc | apply Kd.R_drewN | apply Kd.R_drew)); exact HO134.out) hb); have n1_ := Aside0.mk (below_step (by repeat (first | (with_reducible first | exact HB.out | apply below_alloc | apply pw_below_drewN | apply below_drew1) | exact HB.out)) hb); clear HO134; clear HB; have HO134 := n0_; have HB := n1_; clear n0_ n1_; (try clear hb); (try clear hb2); (try clear hk); (try clear hi)) | ((with_reducible refine gate_callee (f := 11) rfl ?_); refine goesL_ (some 28) rfl rfl Try.func11 (by kernel_rfl) rfl #[.slice A0 l0.length c0, .int .i64 a1, .int .i64 a2] rfl (by (try simp only [List.map_toArray, List.map_cons, List.map_nil]); first | done | rfl | (simp only [List.length_drop, List.length_take]; rfl)) ?_; (with_reducible refine (undercroftref07_Longest.calls k _ _ l0 a1 a2 t137 t138 _ ?side1 ?side2 A8.out).mono ?_); (case side1 => repeat (first | exact (Kd.C_below HR0.out HB.out) | (with_reducible refine Kd.C_alloc ?_ _) | (with_reducible refine Kd.C_drewN ?_ _) | (with_reducible refine Kd.C_drew ?_))); (case side2 => exact HC0.out); rintro e w29 ⟨rfl, hb⟩; refine ⟨_, rfl, ?_⟩; have n0_ := Aside0.mk (Kd.R_below (by (with_reducible repeat (first | apply Kd.R_alloc | apply Kd.R_drewN | apply Kd.R_drew)); exact HO134.out) hb); have n1_ := Aside0.mk (below_step (by repeat (first | (with_reducible first | exact HB.out | apply below_alloc | apply pw_below_drewN | apply below_drew1) | exact HB.out)) hb); clear HO134; clear HB; have HO134 := n0_; have HB := n1_; clear n0_ n1_; (try clear hb); (try clear hb2); (try clear hk); (try clear hi)) | ((with_reducible refine gate_callee (f := 12) rfl ?_); refine goesL_ (some 33) rfl rfl Try.func12 (by kernel_rfl) rfl #[.slice Ao27 y132.length co27, .int .i64 a1] rfl (by (try simp only [List.map_toArray, List.map_cons, List.map_nil]); first | done | rfl | (simp only [List.length_drop, List.length_take]; rfl)) ?_; (with_reducible refine (bits_Get.calls _ _ y132 a1 t139 _ ?side1 ?side2 A9.out).mono ?_); (case side1 => repeat (first | exact (Kd.R_reads' HO134.out).2.2 | (with_reducible refine Kd.C_alloc ?_ _) | (with_reducible refine Kd.C_drewN ?_ _) | (with_reducible refine Kd.C_drew ?_))); (case side2 => exact (Kd.R_reads' HO134.out).2.1); rintro e w' ⟨rfl, ⟨nd, rfl⟩⟩; refine ⟨_, rfl, ?_⟩) | ((with_reducible refine gate_callee (f := 13) rfl ?_); refine goesL_ (some 36) rfl rfl Try.func13 (by kernel_rfl) rfl #[.slice A0 l0.length c0, .int .i64 a1] rfl (by (try simp only [List.map_toArray, List.map_cons, List.map_nil]); first | done | rfl | (simp only [List.length_drop, List.length_take]; rfl)) ?_; (with_reducible refine (undercroftref07_Get.calls _ _ l0 a1 t140 _ ?side1 ?side2 A10.out).mono ?_); (case side1 => repeat (first | exact (Kd.C_below HR0.out (by repeat (first | (with_reducible first | exact HB.out | apply below_alloc | apply pw_below_drewN | apply below_drew1) | exact HB.out))) | (with_reducible refine Kd.C_alloc ?_ _) | (with_reducible refine Kd.C_drewN ?_ _) | (with_reducible refine Kd.C_drew ?_))); (case side2 => exact HC0.out); rintro e w' ⟨rfl, ⟨nd, rfl⟩⟩; refine ⟨_, rfl, ?_⟩) | (go_at_call 14; (with_reducible refine (bits_Count.calls k _ _ y132 a1 a2 t141 _ ?side1 ?side2 A12.out).mono ?_); (case side1 => repeat (first | exact (Kd.R_reads' HO134.out).2.2 | (with_reducible refine Kd.C_alloc ?_ _) | (with_reducible refine Kd.C_drewN ?_ _) | (with_reducible refine Kd.C_drew ?_))); (case side2 => exact (Kd.R_reads' HO134.out).2.1); rintro e w30 ⟨rfl, hb⟩; have n0_ := Aside0.mk (Kd.R_below (by (with_reducible repeat (first | apply Kd.R_alloc | apply Kd.R_drewN | apply Kd.R_drew)); exact HO134.out) hb); have n1_ := Aside0.mk (below_step (by repeat (first | (with_reducible first | exact HB.out | apply below_alloc | apply pw_below_drewN | apply below_drew1) | exact HB.out)) hb); clear HO134; clear HB; have HO134 := n0_; have HB := n1_; clear n0_ n1_; (try clear hb); (try clear hb2); (try clear hk); (try clear hi)) | (go_at_call 15; (with_reducible refine (undercroftref07_Count.calls k _ _ l0 a1 a2 t142 _ ?side1 ?side2 A13.out).mono ?_); (case side1 => repeat (first | exact (Kd.C_below HR0.out HB.out) | (with_reducible refine Kd.C_alloc ?_ _) | (with_reducible refine Kd.C_drewN ?_ _) | (with_reducible refine Kd.C_drew ?_))); (case side2 => exact HC0.out); rintro e w31 ⟨rfl, hb⟩; have n0_ := Aside0.mk (Kd.R_below (by (with_reducible repeat (first | apply Kd.R_alloc | apply Kd.R_drewN | apply Kd.R_drew)); exact HO134.out) hb); have n1_ := Aside0.mk (below_step (by repeat (first | (with_reducible first | exact HB.out | apply below_alloc | apply pw_below_drewN | apply below_drew1) | exact HB.out)) hb); clear HO134; clear HB; have HO134 := n0_; have HB := n1_; clear n0_ n1_; (try clear hb); (try clear hb2); (try clear hk); (try clear hi)) | (go_at_call 16; (with_reducible refine (bits_First.calls k _ _ y132 a1 a2 true t143 _ ?side1 ?side2 A15.out).mono ?_); (case side1 => repeat (first | exact (Kd.R_reads' HO134.out).2.2 | (with_reducible refine Kd.C_alloc ?_ _) | (with_reducible refine Kd.C_drewN ?_ _) | (with_reducible refine Kd.C_drew ?_))); (case side2 => exact (Kd.R_reads' HO134.out).2.1); rintro e w32 ⟨rfl, hb⟩; have n0_ := Aside0.mk (Kd.R_below (by (with_reducible repeat (first | apply Kd.R_alloc | apply Kd.R_drewN | apply Kd.R_drew)); exact HO134.out) hb); have n1_ := Aside0.mk (below_step (by repeat (first | (with_reducible first | exact HB.out | apply below_alloc | apply pw_below_drewN | apply below_drew1) | exact HB.out)) hb); clear HO134; clear HB; have HO134 := n0_; have HB := n1_; clear n0_ n1_; (try clear hb); (try clear hb2); (try clear hk); (try clear hi)) | (go_at_call 17; (with_reducible refine (undercroftref07_First.calls k _ _ l0 a1 a2 true t144 _ ?side1 ?side2 A16.out).mono ?_); (case side1 => repeat (first | exact (Kd.C_below HR0.out HB.out) | (with_reducible refine Kd.C_alloc ?_ _) | (with_reducible refine Kd.C_drewN ?_ _) | (with_reducible refine Kd.C_drew ?_))); (case side2 => exact HC0.out); rintro e w33 ⟨rfl, hb⟩; have n0_ := Aside0.mk (Kd.R_below (by (with_reducible repeat (first | apply Kd.R_alloc | apply Kd.R_drewN | apply Kd.R_drew)); exact HO134.out) hb); have n1_ := Aside0.mk (below_step (by repeat (first | (with_reducible first | exact HB.out | apply below_alloc | apply pw_below_drewN | apply below_drew1) | exact HB.out)) hb); clear HO134; clear HB; have HO134 := n0_; have HB := n1_; clear n0_ n1_; (try clear hb); (try clear hb2); (try clear hk); (try clear hi)) | (go_at_call 16; (with_reducible refine (bits_First.calls k _ _ y132 a1 a2 false t145 _ ?side1 ?side2 A18.out).mono ?_); (case side1 => repeat (first | exact (Kd.R_reads' HO134.out).2.2 | (with_reducible refine Kd.C_alloc ?_ _) | (with_reducible refine Kd.C_drewN ?_ _) | (with_reducible refine Kd.C_drew ?_))); (case side2 => exact (Kd.R_reads' HO134.out).2.1); rintro e w34 ⟨rfl, hb⟩; have n0_ := Aside0.mk (Kd.R_below (by (with_reducible repeat (first | apply Kd.R_alloc | apply Kd.R_drewN | apply Kd.R_drew)); exact HO134.out) hb); have n1_ := Aside0.mk (below_step (by repeat (first | (with_reducible first | exact HB.out | apply below_alloc | apply pw_below_drewN | apply below_drew1) | exact HB.out)) hb); clear HO134; clear HB; have HO134 := n0_; have HB := n1_; clear n0_ n1_; (try clear hb); (try clear hb2); (try clear hk); (try clear hi)) | (go_at_call 17; (with_reducible refine (undercroftref07_First.calls k _ _ l0 a1 a2 false t146 _ ?side1 ?side2 A19.out).mono ?_); (case side1 => repeat (first | exact (Kd.C_below HR0.out HB.out) | (with_reducible refine Kd.C_alloc ?_ _) | (with_reducible refine Kd.C_drewN ?_ _) | (with_reducible refine Kd.C_drew ?_))); (case side2 => exact HC0.out); rintro e w35 ⟨rfl, hb⟩; have n0_ := Aside0.mk (Kd.R_below (by (with_reducible repeat (first | apply Kd.R_alloc | apply Kd.R_drewN | apply Kd.R_drew)); exact HO134.out) hb); have n1_ := Aside0.mk (below_step (by repeat (first | (with_reducible first | exact HB.out | apply below_alloc | apply pw_below_drewN | apply below_drew1) | exact HB.out)) hb); clear HO134; clear HB; have HO134 := n0_; have HB := n1_; clear n0_ n1_; (try clear hb); (try clear hb2); (try clear hk); (try clear hi); have hcv36 := own_string (P := Try.prog) Try.underlying22 Try.underlying5 Try.underlying9 (Kd.own_of_R HO134.out); have hcd37 := fun (nd_ : Nat) => own_string (P := Try.prog) Try.underlying22 Try.underlying5 Try.underlying9 (Kd.own_of_R (Kd.R_drewN HO134.out nd_)); have hcv38 := Kd.C_string (P := Try.prog) (A := A0) (c := c0) Try.underlying22 Try.underlying5 Try.underlying9 (Kd.C_below HR0.out HB.out); have hcd39 := fun (nd_ : Nat) => Kd.C_string (P := Try.prog) (A := A0) (c := c0) Try.underlying22 Try.underlying5 Try.underlying9 (Kd.C_drewN (Kd.C_below HR0.out HB.out) nd_)))
    go_ret
    exact ⟨by first | rfl | (simp [errW_none, errW_some] <;> rfl) | (simp [*, errW_none, errW_some] <;> rfl), by repeat (first | (with_reducible first | exact HB.out | apply below_alloc | apply pw_below_drewN | apply below_drew1) | exact HB.out)⟩
  · replace c5 := Bool.eq_false_iff.mpr c5
    subst c5
    have H1 : (some false) = some r := by rw [if_neg (show ¬ (false = true) by decide)] at H; exact H
    clear H
    have H := H1
    clear H1
    exact absurd (Option.some.inj H) (by rw [hT]; decide)

/-- THE ONE PURE STATEMENT of undercroftlaw07_BitsTells: yours. -/
def undercroftlaw07_BitsTells.Pure : Prop := ∀ (l0 : List Int) (a1 : Int) (a2 : Int), l0.length ≤ maxLen → l0.length * 1 ≤ 140737488351232 → (∀ x ∈ l0, (Lit.int .u8 x).wf = true) → (Lit.int .i64 a1).wf = true → (Lit.int .i64 a2).wf = true → ∃ k, undercroftlaw07_BitsTells.f k l0 a1 a2 = some true
theorem undercroftlaw07_BitsTells.walk (P : undercroftlaw07_BitsTells.Pure) (a0 : Option Addr) (len0 cap0 : Nat) (z0 : List Int) (a1 : Int) (a2 : Int) (w : World) (w0 : (a0 = none ∧ len0 = 0 ∧ cap0 = 0 ∧ z0 = []) ∨ ∃ x, a0 = some x ∧ len0 ≤ cap0 ∧ cap0 ≤ maxLen ∧ z0.length = cap0 ∧ (∀ i, i < z0.length → w.cell? (x.add i) = some (.int .u8 (z0.getD i 0))) ∧ ∀ n ∈ z0, (Lit.int .u8 n).wf = true) (y0 : len0 * 1 ≤ 140737488351232) (w1 : (Lit.int .i64 a1).wf = true) (w2 : (Lit.int .i64 a2).wf = true) :
    Calls Try.prog 3 #[.slice a0 len0 cap0, .int .i64 a1, .int .i64 a2] w fun e w' => e = .returned (.bool true) ∧ Below w.heap.size w w' := by
  obtain ⟨l0, rfl, hr0, hm0, hw0, hc0⟩ := ReadsInt.ofRowC w0
  obtain ⟨k, h⟩ := P l0 a1 a2 hm0 y0 hw0 w1 w2
  refine (undercroftlaw07_BitsTells.calls k _ _ l0 a1 a2 true w (Kd.C_of_reads (d := (0 : Int)) (h1 := fun _ => rfl) hr0) hc0 h rfl).mono ?_
  rintro e w' ⟨rfl, hd⟩
  exact ⟨rfl, hd⟩

-- NOT PRINTED: function 4 (undercroftlaw07_BitsFills)

end Go.Proofs.Ytlieacllpifhkaa.U
