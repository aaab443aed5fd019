/- Written by uprint.py (ours) for this seat: functions of the translation as Lean functions, and what their calls do. Not trusted: Lean checks it. -/
import Derived.Test.YtlhpejdbmbpmhaaUx0
import Derived.Test.YtlhpejdbmbpmhaaUx1
import Derived.Test.YtlhpejdbmbpmhaaUx6
import Derived.Test.YtlhpejdbmbpmhaaUx8
import Derived.Test.YtlhpejdbmbpmhaaUx18
import Derived.Test.YtlhpejdbmbpmhaaUx19
import Derived.Test.YtlhpejdbmbpmhaaUx25
namespace Go.Proofs.Ytlhpejdbmbpmhaa.U
open Go.RowKit Go.Proofs.YtlhpejdbmbpmhaaW.PrintWords Go.Proofs.YtlhpejdbmbpmhaaW.PrintLast Go.Proofs.YtlhpejdbmbpmhaaW.PrintMore
attribute [local go_sem] max2_int min2_int max_two min_two max_three min_three max_four min_four   -- for this text's walks alone
set_option linter.unusedVariables false
set_option linter.unusedSimpArgs false

attribute [local go_sem high] eqA27
/-! ### undercroftlaw08_BuddyFree: function 8 -/
mutual
def undercroftlaw08_BuddyFree.j0 : Nat → List Int → List Int → Bool → Int → Int → Int → Int → Int → Option (Bool)
  | 0, _, _, _, _, _, _, _, _ => none
  | k + 1, x0, x5, x101, x308000, x308001, x308002, x316000, x316001 => if x101 = true then (some false) else (undercroftlaw08_BuddyFree.l0 k x0 x5 0 x308000 x308001 x308002 x316000 x316001)
def undercroftlaw08_BuddyFree.l0 : Nat → List Int → List Int → Int → Int → Int → Int → Int → Int → Option (Bool)
  | 0, _, _, _, _, _, _, _, _ => none
  | k + 1, x0, x5, x10, x308000, x308001, x308002, x316000, x316001 => if x10 < (wrap64 (8 * (x0.length : Int))) then (if x10 ≥ x316000 then (undercroftlaw08_BuddyFree.j2 k x0 x5 x10 (decide (x10 < (wrap64 (x316000 + x316001)))) x308000 x308001 x308002 x316000 x316001) else (undercroftlaw08_BuddyFree.j2 k x0 x5 x10 false x308000 x308001 x308002 x316000 x316001)) else ((buddy_Give.f k x5 x308000 x316000 x316001).bind fun bt318 => (if bt318.2 = 0 then (some ((strOfNums bt318.1).toList == (strOfNums x0).toList)) else (some false)))
def undercroftlaw08_BuddyFree.j2 : Nat → List Int → List Int → Int → Bool → Int → Int → Int → Int → Int → Option (Bool)
  | 0, _, _, _, _, _, _, _, _, _ => none
  | k + 1, x0, x5, x10, x11, x308000, x308001, x308002, x316000, x316001 => if x11 = true then ((bits_Get.f x0 x10).bind fun t322 => (if t322 = true then (some false) else ((bits_Get.f x5 x10).bind fun t323 => (if t323 = true then (undercroftlaw08_BuddyFree.l0 k x0 x5 (wrap64 (x10 + 1)) x308000 x308001 x308002 x316000 x316001) else (some false))))) else ((bits_Get.f x0 x10).bind fun t324 => ((bits_Get.f x5 x10).bind fun t325 => (if (t324 != t325) = true then (some false) else (undercroftlaw08_BuddyFree.l0 k x0 x5 (wrap64 (x10 + 1)) x308000 x308001 x308002 x316000 x316001))))
end
def undercroftlaw08_BuddyFree.f (k : Nat) (l0 : List Int) (a1_0 : Int) (a1_1 : Int) (a1_2 : Int) : Option (Bool) := (undercroftlaw08_alive.f k).bind fun t308 => (if t308 = true then ((buddy_Take.f k l0 a1_0 a1_1 a1_2).bind fun bt309 => ((buddy_Free.f k l0 a1_0).bind fun bt316 => (if bt309.2.2.2 = 9 then (if bt316.2 = 0 then (if bt316.1 = 0 then (some ((bt309.1.length : Int) == 0)) else (some false)) else (some false)) else (if bt309.2.2.2 = 0 then (if bt316.2 = 0 then (if bt316.1 = 0 then (undercroftlaw08_BuddyFree.j0 k l0 bt309.1 true a1_0 a1_1 a1_2 bt309.2.1 bt309.2.2.1) else (if bt309.2.2.1 < 1 then (undercroftlaw08_BuddyFree.j0 k l0 bt309.1 true a1_0 a1_1 a1_2 bt309.2.1 bt309.2.2.1) else (if bt309.2.2.1 > a1_1 then (undercroftlaw08_BuddyFree.j0 k l0 bt309.1 true a1_0 a1_1 a1_2 bt309.2.1 bt309.2.2.1) else (if bt309.2.1 < 0 then (undercroftlaw08_BuddyFree.j0 k l0 bt309.1 true a1_0 a1_1 a1_2 bt309.2.1 bt309.2.2.1) else (if bt309.2.1 > (wrap64 (a1_0 - bt309.2.2.1)) then (undercroftlaw08_BuddyFree.j0 k l0 bt309.1 true a1_0 a1_1 a1_2 bt309.2.1 bt309.2.2.1) else (undercroftlaw08_BuddyFree.j0 k l0 bt309.1 ((bt309.1.length : Int) != (l0.length : Int)) a1_0 a1_1 a1_2 bt309.2.1 bt309.2.2.1)))))) else (undercroftlaw08_BuddyFree.j0 k l0 bt309.1 true a1_0 a1_1 a1_2 bt309.2.1 bt309.2.2.1)) else (if bt309.2.2.2 = 1 then (if (bt309.1.length : Int) = 0 then (some (bt309.2.1 == 0 && (bt309.2.2.1 == 0))) else (some false)) else (some false)))))) else (some false))
theorem undercroftlaw08_BuddyFree.mono_l : ∀ k, (∀ y0 y1 y2 y3 y4 y5 y6 y7, LeO (undercroftlaw08_BuddyFree.j0 k y0 y1 y2 y3 y4 y5 y6 y7) (undercroftlaw08_BuddyFree.j0 (k + 1) y0 y1 y2 y3 y4 y5 y6 y7)) ∧ (∀ y0 y1 y2 y3 y4 y5 y6 y7, LeO (undercroftlaw08_BuddyFree.l0 k y0 y1 y2 y3 y4 y5 y6 y7) (undercroftlaw08_BuddyFree.l0 (k + 1) y0 y1 y2 y3 y4 y5 y6 y7)) ∧ (∀ y0 y1 y2 y3 y4 y5 y6 y7 y8, LeO (undercroftlaw08_BuddyFree.j2 k y0 y1 y2 y3 y4 y5 y6 y7 y8) (undercroftlaw08_BuddyFree.j2 (k + 1) y0 y1 y2 y3 y4 y5 y6 y7 y8))
  | 0 => ⟨fun _ _ _ _ _ _ _ _ r h => by simp [undercroftlaw08_BuddyFree.j0] at h, fun _ _ _ _ _ _ _ _ r h => by simp [undercroftlaw08_BuddyFree.l0] at h, fun _ _ _ _ _ _ _ _ _ r h => by simp [undercroftlaw08_BuddyFree.j2] at h⟩
  | k + 1 => by
    obtain ⟨ih0, ih1, ih2⟩ := undercroftlaw08_BuddyFree.mono_l k
    refine ⟨?_, ?_, ?_⟩
    · intro y0 y1 y2 y3 y4 y5 y6 y7
      unfold undercroftlaw08_BuddyFree.j0
      repeat' first
      | (with_reducible exact ih0 _ _ _ _ _ _ _ _)
      | (with_reducible exact ih1 _ _ _ _ _ _ _ _)
      | (with_reducible exact ih2 _ _ _ _ _ _ _ _ _)
      | (with_reducible exact buddy_Free.mono _ _ _)
      | (with_reducible exact buddy_Give.mono _ _ _ _ _)
      | (with_reducible exact buddy_Take.mono _ _ _ _ _)
      | (with_reducible exact undercroftlaw08_alive.mono _)
      | (with_reducible exact LeO.refl _)
      | (with_reducible exact LeO.none _)
      | (with_reducible refine LeO.ite ?_ ?_)
      | (with_reducible refine LeO.bind ?_ (fun _ => ?_))
      | exact ih0 _ _ _ _ _ _ _ _
      | exact ih1 _ _ _ _ _ _ _ _
      | exact ih2 _ _ _ _ _ _ _ _ _
      | exact buddy_Free.mono _ _ _
      | exact buddy_Give.mono _ _ _ _ _
      | exact buddy_Take.mono _ _ _ _ _
      | exact undercroftlaw08_alive.mono _
      | exact LeO.none _
      | refine LeO.ite ?_ ?_
      | refine LeO.bind ?_ (fun _ => ?_)
    · intro y0 y1 y2 y3 y4 y5 y6 y7
      unfold undercroftlaw08_BuddyFree.l0
      repeat' first
      | (with_reducible exact ih0 _ _ _ _ _ _ _ _)
      | (with_reducible exact ih1 _ _ _ _ _ _ _ _)
      | (with_reducible exact ih2 _ _ _ _ _ _ _ _ _)
      | (with_reducible exact buddy_Free.mono _ _ _)
      | (with_reducible exact buddy_Give.mono _ _ _ _ _)
      | (with_reducible exact buddy_Take.mono _ _ _ _ _)
      | (with_reducible exact undercroftlaw08_alive.mono _)
      | (with_reducible exact LeO.refl _)
      | (with_reducible exact LeO.none _)
      | (with_reducible refine LeO.ite ?_ ?_)
      | (with_reducible refine LeO.bind ?_ (fun _ => ?_))
      | exact ih0 _ _ _ _ _ _ _ _
      | exact ih1 _ _ _ _ _ _ _ _
      | exact ih2 _ _ _ _ _ _ _ _ _
      | exact buddy_Free.mono _ _ _
      | exact buddy_Give.mono _ _ _ _ _
      | exact buddy_Take.mono _ _ _ _ _
      | exact undercroftlaw08_alive.mono _
      | exact LeO.none _
      | refine LeO.ite ?_ ?_
      | refine LeO.bind ?_ (fun _ => ?_)
    · intro y0 y1 y2 y3 y4 y5 y6 y7 y8
      unfold undercroftlaw08_BuddyFree.j2
      repeat' first
      | (with_reducible exact ih0 _ _ _ _ _ _ _ _)
      | (with_reducible exact ih1 _ _ _ _ _ _ _ _)
      | (with_reducible exact ih2 _ _ _ _ _ _ _ _ _)
      | (with_reducible exact buddy_Free.mono _ _ _)
      | (with_reducible exact buddy_Give.mono _ _ _ _ _)
      | (with_reducible exact buddy_Take.mono _ _ _ _ _)
      | (with_reducible exact undercroftlaw08_alive.mono _)
      | (with_reducible exact LeO.refl _)
      | (with_reducible exact LeO.none _)
      | (with_reducible refine LeO.ite ?_ ?_)
      | (with_reducible refine LeO.bind ?_ (fun _ => ?_))
      | exact ih0 _ _ _ _ _ _ _ _
      | exact ih1 _ _ _ _ _ _ _ _
      | exact ih2 _ _ _ _ _ _ _ _ _
      | exact buddy_Free.mono _ _ _
      | exact buddy_Give.mono _ _ _ _ _
      | exact buddy_Take.mono _ _ _ _ _
      | exact undercroftlaw08_alive.mono _
      | exact LeO.none _
      | refine LeO.ite ?_ ?_
      | refine LeO.bind ?_ (fun _ => ?_)
theorem undercroftlaw08_BuddyFree.mono : ∀ a0 a1 a2 a3 k, LeO (undercroftlaw08_BuddyFree.f k a0 a1 a2 a3) (undercroftlaw08_BuddyFree.f (k + 1) a0 a1 a2 a3) := by
  intro a0 a1 a2 a3 k
  obtain ⟨ih0, ih1, ih2⟩ := undercroftlaw08_BuddyFree.mono_l k
  unfold undercroftlaw08_BuddyFree.f
  repeat' first
      | (with_reducible exact ih0 _ _ _ _ _ _ _ _)
      | (with_reducible exact ih1 _ _ _ _ _ _ _ _)
      | (with_reducible exact ih2 _ _ _ _ _ _ _ _ _)
      | (with_reducible exact buddy_Free.mono _ _ _)
      | (with_reducible exact buddy_Give.mono _ _ _ _ _)
      | (with_reducible exact buddy_Take.mono _ _ _ _ _)
      | (with_reducible exact undercroftlaw08_alive.mono _)
      | (with_reducible exact LeO.refl _)
      | (with_reducible exact LeO.none _)
      | (with_reducible refine LeO.ite ?_ ?_)
      | (with_reducible refine LeO.bind ?_ (fun _ => ?_))
      | exact ih0 _ _ _ _ _ _ _ _
      | exact ih1 _ _ _ _ _ _ _ _
      | exact ih2 _ _ _ _ _ _ _ _ _
      | exact buddy_Free.mono _ _ _
      | exact buddy_Give.mono _ _ _ _ _
      | exact buddy_Take.mono _ _ _ _ _
      | exact undercroftlaw08_alive.mono _
      | exact LeO.none _
      | refine LeO.ite ?_ ?_
      | refine LeO.bind ?_ (fun _ => ?_)
set_option maxHeartbeats 8000000 in
set_option maxRecDepth 100000 in
theorem undercroftlaw08_BuddyFree.calls (k : Nat) (A0 : Option Addr) (c0 : Nat) (l0 : List Int) (a1_0 : Int) (a1_1 : Int) (a1_2 : Int) (r : Bool) (w : World) (hr0 : Kd.C (Kd.int .u8) w A0 l0.length l0) (hc0 : l0.length ≤ c0) (h : undercroftlaw08_BuddyFree.f k l0 a1_0 a1_1 a1_2 = some r) (hT : r = true) :
    Calls Try.prog 8 #[.slice A0 l0.length c0, .agg #[.int .i64 a1_0, .int .i64 a1_1, .int .i64 a1_2]] w fun e w' => e = .returned (.bool r) ∧ Below w.heap.size w w' := by
  have hu24 := Try.underlying24
  have hu27 := Try.underlying27
  have HR0 := Aside0.mk hr0
  have HC0 := Aside0.mk hc0
  clear hr0 hc0
  have HB := Aside0.mk (Below.refl w.heap.size w)
  have H : ((undercroftlaw08_alive.f k).bind fun t308 => (if t308 = true then ((buddy_Take.f k l0 a1_0 a1_1 a1_2).bind fun bt309 => ((buddy_Free.f k l0 a1_0).bind fun bt316 => (if bt309.2.2.2 = 9 then (if bt316.2 = 0 then (if bt316.1 = 0 then (some ((bt309.1.length : Int) == 0)) else (some false)) else (some false)) else (if bt309.2.2.2 = 0 then (if bt316.2 = 0 then (if bt316.1 = 0 then (undercroftlaw08_BuddyFree.j0 k l0 bt309.1 true a1_0 a1_1 a1_2 bt309.2.1 bt309.2.2.1) else (if bt309.2.2.1 < 1 then (undercroftlaw08_BuddyFree.j0 k l0 bt309.1 true a1_0 a1_1 a1_2 bt309.2.1 bt309.2.2.1) else (if bt309.2.2.1 > a1_1 then (undercroftlaw08_BuddyFree.j0 k l0 bt309.1 true a1_0 a1_1 a1_2 bt309.2.1 bt309.2.2.1) else (if bt309.2.1 < 0 then (undercroftlaw08_BuddyFree.j0 k l0 bt309.1 true a1_0 a1_1 a1_2 bt309.2.1 bt309.2.2.1) else (if bt309.2.1 > (wrap64 (a1_0 - bt309.2.2.1)) then (undercroftlaw08_BuddyFree.j0 k l0 bt309.1 true a1_0 a1_1 a1_2 bt309.2.1 bt309.2.2.1) else (undercroftlaw08_BuddyFree.j0 k l0 bt309.1 ((bt309.1.length : Int) != (l0.length : Int)) a1_0 a1_1 a1_2 bt309.2.1 bt309.2.2.1)))))) else (undercroftlaw08_BuddyFree.j0 k l0 bt309.1 true a1_0 a1_1 a1_2 bt309.2.1 bt309.2.2.1)) else (if bt309.2.2.2 = 1 then (if (bt309.1.length : Int) = 0 then (some (bt309.2.1 == 0 && (bt309.2.2.1 == 0))) else (some false)) else (some false)))))) else (some false))) = some r := h
  clear h
  replace H := Option.bind_eq_some_iff.mp H
  obtain ⟨t308, A30, H⟩ := H
  replace H : (if t308 = true then ((buddy_Take.f k l0 a1_0 a1_1 a1_2).bind fun bt309 => ((buddy_Free.f k l0 a1_0).bind fun bt316 => (if bt309.2.2.2 = 9 then (if bt316.2 = 0 then (if bt316.1 = 0 then (some ((bt309.1.length : Int) == 0)) else (some false)) else (some false)) else (if bt309.2.2.2 = 0 then (if bt316.2 = 0 then (if bt316.1 = 0 then (undercroftlaw08_BuddyFree.j0 k l0 bt309.1 true a1_0 a1_1 a1_2 bt309.2.1 bt309.2.2.1) else (if bt309.2.2.1 < 1 then (undercroftlaw08_BuddyFree.j0 k l0 bt309.1 true a1_0 a1_1 a1_2 bt309.2.1 bt309.2.2.1) else (if bt309.2.2.1 > a1_1 then (undercroftlaw08_BuddyFree.j0 k l0 bt309.1 true a1_0 a1_1 a1_2 bt309.2.1 bt309.2.2.1) else (if bt309.2.1 < 0 then (undercroftlaw08_BuddyFree.j0 k l0 bt309.1 true a1_0 a1_1 a1_2 bt309.2.1 bt309.2.2.1) else (if bt309.2.1 > (wrap64 (a1_0 - bt309.2.2.1)) then (undercroftlaw08_BuddyFree.j0 k l0 bt309.1 true a1_0 a1_1 a1_2 bt309.2.1 bt309.2.2.1) else (undercroftlaw08_BuddyFree.j0 k l0 bt309.1 ((bt309.1.length : Int) != (l0.length : Int)) a1_0 a1_1 a1_2 bt309.2.1 bt309.2.2.1)))))) else (undercroftlaw08_BuddyFree.j0 k l0 bt309.1 true a1_0 a1_1 a1_2 bt309.2.1 bt309.2.2.1)) else (if bt309.2.2.2 = 1 then (if (bt309.1.length : Int) = 0 then (some (bt309.2.1 == 0 && (bt309.2.2.1 == 0))) else (some false)) else (some false)))))) else (some false)) = some r := H
  have A3 := Aside0.mk A30
  clear A30
  by_cases c4 : t308 = true
  · subst c4
    have H1 : ((buddy_Take.f k l0 a1_0 a1_1 a1_2).bind fun bt309 => ((buddy_Free.f k l0 a1_0).bind fun bt316 => (if bt309.2.2.2 = 9 then (if bt316.2 = 0 then (if bt316.1 = 0 then (some ((bt309.1.length : Int) == 0)) else (some false)) else (some false)) else (if bt309.2.2.2 = 0 then (if bt316.2 = 0 then (if bt316.1 = 0 then (undercroftlaw08_BuddyFree.j0 k l0 bt309.1 true a1_0 a1_1 a1_2 bt309.2.1 bt309.2.2.1) else (if bt309.2.2.1 < 1 then (undercroftlaw08_BuddyFree.j0 k l0 bt309.1 true a1_0 a1_1 a1_2 bt309.2.1 bt309.2.2.1) else (if bt309.2.2.1 > a1_1 then (undercroftlaw08_BuddyFree.j0 k l0 bt309.1 true a1_0 a1_1 a1_2 bt309.2.1 bt309.2.2.1) else (if bt309.2.1 < 0 then (undercroftlaw08_BuddyFree.j0 k l0 bt309.1 true a1_0 a1_1 a1_2 bt309.2.1 bt309.2.2.1) else (if bt309.2.1 > (wrap64 (a1_0 - bt309.2.2.1)) then (undercroftlaw08_BuddyFree.j0 k l0 bt309.1 true a1_0 a1_1 a1_2 bt309.2.1 bt309.2.2.1) else (undercroftlaw08_BuddyFree.j0 k l0 bt309.1 ((bt309.1.length : Int) != (l0.length : Int)) a1_0 a1_1 a1_2 bt309.2.1 bt309.2.2.1)))))) else (undercroftlaw08_BuddyFree.j0 k l0 bt309.1 true a1_0 a1_1 a1_2 bt309.2.1 bt309.2.2.1)) else (if bt309.2.2.2 = 1 then (if (bt309.1.length : Int) = 0 then (some (bt309.2.1 == 0 && (bt309.2.2.1 == 0))) else (some false)) else (some false)))))) = some r := by rw [if_pos rfl] at H; exact H
    clear H
    have H := H1
    clear H1
    replace H := Option.bind_eq_some_iff.mp H
    obtain ⟨⟨t309, t312, t313, t314⟩, A50, H⟩ := H
    replace H : ((buddy_Free.f k l0 a1_0).bind fun bt316 => (if t314 = 9 then (if bt316.2 = 0 then (if bt316.1 = 0 then (some ((t309.length : Int) == 0)) else (some false)) else (some false)) else (if t314 = 0 then (if bt316.2 = 0 then (if bt316.1 = 0 then (undercroftlaw08_BuddyFree.j0 k l0 t309 true a1_0 a1_1 a1_2 t312 t313) else (if t313 < 1 then (undercroftlaw08_BuddyFree.j0 k l0 t309 true a1_0 a1_1 a1_2 t312 t313) else (if t313 > a1_1 then (undercroftlaw08_BuddyFree.j0 k l0 t309 true a1_0 a1_1 a1_2 t312 t313) else (if t312 < 0 then (undercroftlaw08_BuddyFree.j0 k l0 t309 true a1_0 a1_1 a1_2 t312 t313) else (if t312 > (wrap64 (a1_0 - t313)) then (undercroftlaw08_BuddyFree.j0 k l0 t309 true a1_0 a1_1 a1_2 t312 t313) else (undercroftlaw08_BuddyFree.j0 k l0 t309 ((t309.length : Int) != (l0.length : Int)) a1_0 a1_1 a1_2 t312 t313)))))) else (undercroftlaw08_BuddyFree.j0 k l0 t309 true a1_0 a1_1 a1_2 t312 t313)) else (if t314 = 1 then (if (t309.length : Int) = 0 then (some (t312 == 0 && (t313 == 0))) else (some false)) else (some false))))) = some r := H
    have A5 := Aside0.mk A50
    clear A50
    replace H := Option.bind_eq_some_iff.mp H
    obtain ⟨⟨t316, t317⟩, A60, H⟩ := H
    replace H : (if t314 = 9 then (if t317 = 0 then (if t316 = 0 then (some ((t309.length : Int) == 0)) else (some false)) else (some false)) else (if t314 = 0 then (if t317 = 0 then (if t316 = 0 then (undercroftlaw08_BuddyFree.j0 k l0 t309 true a1_0 a1_1 a1_2 t312 t313) else (if t313 < 1 then (undercroftlaw08_BuddyFree.j0 k l0 t309 true a1_0 a1_1 a1_2 t312 t313) else (if t313 > a1_1 then (undercroftlaw08_BuddyFree.j0 k l0 t309 true a1_0 a1_1 a1_2 t312 t313) else (if t312 < 0 then (undercroftlaw08_BuddyFree.j0 k l0 t309 true a1_0 a1_1 a1_2 t312 t313) else (if t312 > (wrap64 (a1_0 - t313)) then (undercroftlaw08_BuddyFree.j0 k l0 t309 true a1_0 a1_1 a1_2 t312 t313) else (undercroftlaw08_BuddyFree.j0 k l0 t309 ((t309.length : Int) != (l0.length : Int)) a1_0 a1_1 a1_2 t312 t313)))))) else (undercroftlaw08_BuddyFree.j0 k l0 t309 true a1_0 a1_1 a1_2 t312 t313)) else (if t314 = 1 then (if (t309.length : Int) = 0 then (some (t312 == 0 && (t313 == 0))) else (some false)) else (some false)))) = some r := H
    have A6 := Aside0.mk A60
    clear A60
    by_cases c7 : t314 = 9
    · rw [if_pos c7] at H
      have c7b0 : (t314 == 9) = true := beq_iff_eq.mpr c7
      have c7b1 : (t314 != 9) = false := bne_eq_false_iff_eq.mpr c7
      clear c7
      by_cases c8 : t317 = 0
      rotate_left
      · rw [if_neg c8] at H
        have c8b0 : (t317 == 0) = false := beq_eq_false_iff_ne.mpr c8
        have c8b1 : (t317 != 0) = true := bne_iff_ne.mpr c8
        exact absurd (Option.some.inj H) (by rw [hT]; decide)
      rw [if_pos c8] at H
      have c8b0 : (t317 == 0) = true := beq_iff_eq.mpr c8
      have c8b1 : (t317 != 0) = false := bne_eq_false_iff_eq.mpr c8
      clear c8
      by_cases c9 : t316 = 0
      rotate_left
      · rw [if_neg c9] at H
        have c9b0 : (t316 == 0) = false := beq_eq_false_iff_ne.mpr c9
        have c9b1 : (t316 != 0) = true := bne_iff_ne.mpr c9
        exact absurd (Option.some.inj H) (by rw [hT]; decide)
      rw [if_pos c9] at H
      have c9b0 : (t316 == 0) = true := beq_iff_eq.mpr c9
      have c9b1 : (t316 != 0) = false := bne_eq_false_iff_eq.mpr c9
      clear c9
      obtain rfl := Option.some.inj H
      go_enter Try.func8, Try.ntmps8
      go_wp2_with (first | ((with_reducible refine gate_dst (N := 3) rfl ?_); (try (refine gate_guard (by rfl) ?_; dsimp only)); refine box_event ?hg (N := 3) ?hd (cs := #[.int .i64 a1_0, .int .i64 a1_1, .int .i64 a1_2]) (t := 24) ?hr ?_; (case hd => rfl); (case hg => rfl); (case hr => go_simp; first | done | rfl); intro gb307 hg w10 hbox hb; have n0_ := Aside0.mk (below_step (by repeat (first | (with_reducible first | exact HB.out | apply below_alloc | apply pw_below_drewN | apply below_drew1) | exact HB.out)) hb); have n1_ := Aside0.mk (hbox); have n2_ := Aside0.mk ((by rw [hg]; exact (below_size (by repeat (first | (with_reducible first | exact HB.out | apply below_alloc | apply pw_below_drewN | apply below_drew1) | exact HB.out))) : w.heap.size ≤ gb307)); have n3_ := Aside0.mk ((by rw [hg]; exact (below_size (by repeat (first | (with_reducible first | exact HB.out | apply below_alloc | apply pw_below_drewN | apply below_drew1) | exact HB.out))) : w.heap.size ≤ gb307)); clear HB; have HB := n0_; have BK307 := n1_; have GW307 := n2_; have GE307 := n3_; clear n0_ n1_ n2_ n3_; clear hb hbox hg) | ((with_reducible refine gate_callee (f := 10) rfl ?_); refine goesL_ (some 14) rfl rfl Try.func10 (by kernel_rfl) rfl #[] rfl (by (try simp only [List.map_toArray, List.map_cons, List.map_nil]); first | done | rfl | (simp only [List.length_drop, List.length_take]; rfl)) ?_; (with_reducible refine (undercroftlaw08_alive.calls k  true _ A3.out rfl).mono ?_); rintro e w11 ⟨rfl, hb⟩; refine ⟨_, rfl, ?_⟩; have n0_ := Aside0.mk (blk_below (g := gb307) (o := .cells #[.int .i64 a1_0, .int .i64 a1_1, .int .i64 a1_2] 24 (0, 0)) (by (with_reducible repeat (first | refine blk_drewN ?_ _ | refine blk_drew ?_ | refine blk_alloc ?_ _)); exact BK307.out) hb); have n1_ := Aside0.mk (below_step (by repeat (first | (with_reducible first | exact HB.out | apply below_alloc | apply pw_below_drewN | apply below_drew1 | refine below_set ?_ GE307.out) | exact HB.out)) hb); clear BK307; clear HB; have BK307 := n0_; have HB := n1_; clear n0_ n1_; (try clear hb); (try clear hb2); (try clear hk); (try clear hi); have hcz12_0 : w11.cell? ⟨gb307, 0, none⟩ = some (.int .i64 a1_0) := (blk_cell BK307.out 0).trans rfl; have hcz12_1 : w11.cell? ⟨gb307, 1, none⟩ = some (.int .i64 a1_1) := (blk_cell BK307.out 1).trans rfl; have hcz12_2 : w11.cell? ⟨gb307, 2, none⟩ = some (.int .i64 a1_2) := (blk_cell BK307.out 2).trans rfl; have hfz12_0 := blk_frozen BK307.out 0; have hfz12_1 := blk_frozen BK307.out 1; have hfz12_2 := blk_frozen BK307.out 2) | ((with_reducible refine gate_callee (f := 11) rfl ?_); refine goesL_ (some 24) rfl rfl Try.func11 (by kernel_rfl) rfl #[.slice A0 l0.length c0, .int .i64 a1_0, .int .i64 a1_1, .int .i64 a1_2] rfl (by (try simp only [List.map_toArray, List.map_cons, List.map_nil]); first | done | rfl | (simp only [List.length_drop, List.length_take]; rfl)) ?_; (with_reducible refine (buddy_Take.calls k _ _ l0 a1_0 a1_1 a1_2 t309 t312 t313 t314 _ ?side1 ?side2 A5.out).mono ?_); (case side1 => repeat (first | exact (Kd.C_below HR0.out HB.out) | (with_reducible refine Kd.C_alloc ?_ _) | (with_reducible refine Kd.C_drewN ?_ _) | (with_reducible refine Kd.C_drew ?_))); (case side2 => exact HC0.out); rintro e w13 ⟨v310, rfl, ho0, hb⟩; refine ⟨_, rfl, ?_⟩; have n0_ := Aside0.mk (Kd.R_lower ho0 (below_size (by repeat (first | (with_reducible first | exact HB.out | apply below_alloc | apply pw_below_drewN | apply below_drew1 | refine below_set ?_ GE307.out) | exact HB.out)))); have n1_ := Aside0.mk (blk_below (g := gb307) (o := .cells #[.int .i64 a1_0, .int .i64 a1_1, .int .i64 a1_2] 24 (0, 0)) (by (with_reducible repeat (first | refine blk_drewN ?_ _ | refine blk_drew ?_ | refine blk_alloc ?_ _)); exact BK307.out) hb); have n2_ := Aside0.mk (below_step (by repeat (first | (with_reducible first | exact HB.out | apply below_alloc | apply pw_below_drewN | apply below_drew1 | refine below_set ?_ GE307.out) | exact HB.out)) hb); clear BK307; clear HB; have HO311 := n0_; have BK307 := n1_; have HB := n2_; clear n0_ n1_ n2_; (try clear hb); (try clear hb2); (try clear hk); (try clear hi); (try clear ho0)) | ((with_reducible refine gate_dst (N := 6) rfl ?_); (try (refine gate_guard (by rfl) ?_; dsimp only)); refine box_event ?hg (N := 6) ?hd (cs := #[.int .i64 0, .int .i64 0]) (t := 27) ?hr ?_; (case hd => rfl); (case hg => rfl); (case hr => go_simp; first | done | rfl); intro gb315 hg w14 hbox hb; have n0_ := Aside0.mk (Kd.R_below (by (with_reducible repeat (first | apply Kd.R_alloc | apply Kd.R_drewN | apply Kd.R_drew)); exact HO311.out) hb); have n1_ := Aside0.mk (blk_below (g := gb307) (o := .cells #[.int .i64 a1_0, .int .i64 a1_1, .int .i64 a1_2] 24 (0, 0)) (by (with_reducible repeat (first | refine blk_drewN ?_ _ | refine blk_drew ?_ | refine blk_alloc ?_ _)); exact BK307.out) hb); have n2_ := Aside0.mk (below_step (by repeat (first | (with_reducible first | exact HB.out | apply below_alloc | apply pw_below_drewN | apply below_drew1 | refine below_set ?_ GE307.out) | exact HB.out)) hb); have n3_ := Aside0.mk (hbox); have n4_ := Aside0.mk ((by rw [hg]; exact (below_size (by repeat (first | (with_reducible first | exact HB.out | apply below_alloc | apply pw_below_drewN | apply below_drew1 | refine below_set ?_ GE307.out) | exact HB.out))) : w.heap.size ≤ gb315)); have n5_ := Aside0.mk ((by rw [hg]; exact (below_size (by repeat (first | (with_reducible first | exact HB.out | apply below_alloc | apply pw_below_drewN | apply below_drew1 | refine below_set ?_ GE307.out) | exact HB.out))) : w.heap.size ≤ gb315)); have n6_ := Aside0.mk ((by rw [hg]; exact Nat.ne_of_lt (blk_lt (g := gb307) (o := .cells #[.int .i64 a1_0, .int .i64 a1_1, .int .i64 a1_2] 24 (0, 0)) (by (with_reducible repeat (first | refine blk_drewN ?_ _ | refine blk_drew ?_ | refine blk_alloc ?_ _)); exact BK307.out)) : gb307 ≠ gb315)); have n7_ := Aside0.mk ((by rw [hg]; exact Nat.ne_of_gt (blk_lt (g := gb307) (o := .cells #[.int .i64 a1_0, .int .i64 a1_1, .int .i64 a1_2] 24 (0, 0)) (by (with_reducible repeat (first | refine blk_drewN ?_ _ | refine blk_drew ?_ | refine blk_alloc ?_ _)); exact BK307.out)) : gb315 ≠ gb307)); clear HO311; clear BK307; clear HB; have HO311 := n0_; have BK307 := n1_; have HB := n2_; have BK315 := n3_; have GW315 := n4_; have GE315 := n5_; have NB307_315 := n6_; have NB315_307 := n7_; clear n0_ n1_ n2_ n3_ n4_ n5_ n6_ n7_; clear hb hbox hg; have hnb15 := NB315_307.out; have hnc15 := NB307_315.out; have hcz16_0 : w14.cell? ⟨gb315, 0, none⟩ = some (.int .i64 0) := (blk_cell BK315.out 0).trans rfl; have hcz16_1 : w14.cell? ⟨gb315, 1, none⟩ = some (.int .i64 0) := (blk_cell BK315.out 1).trans rfl; have hfz16_0 := blk_frozen BK315.out 0; have hfz16_1 := blk_frozen BK315.out 1; have hcz17_0 : w14.cell? ⟨gb307, 0, none⟩ = some (.int .i64 a1_0) := (blk_cell BK307.out 0).trans rfl; have hcz17_1 : w14.cell? ⟨gb307, 1, none⟩ = some (.int .i64 a1_1) := (blk_cell BK307.out 1).trans rfl; have hcz17_2 : w14.cell? ⟨gb307, 2, none⟩ = some (.int .i64 a1_2) := (blk_cell BK307.out 2).trans rfl; have hfz17_0 := blk_frozen BK307.out 0; have hfz17_1 := blk_frozen BK307.out 1; have hfz17_2 := blk_frozen BK307.out 2) | ((with_reducible refine gate_callee (f := 14) rfl ?_); refine goesL_ (some 32) rfl rfl Try.func14 (by kernel_rfl) rfl #[.slice A0 l0.length c0, .int .i64 a1_0] rfl (by (try simp only [List.map_toArray, List.map_cons, List.map_nil]); first | done | rfl | (simp only [List.length_drop, List.length_take]; rfl)) ?_; (with_reducible refine (buddy_Free.calls k _ _ l0 a1_0 t316 t317 _ ?side1 ?side2 A6.out).mono ?_); (case side1 => exact Kd.C_below HR0.out (by repeat (first | (with_reducible first | exact HB.out | apply below_alloc | apply pw_below_drewN | apply below_drew1 | refine below_set ?_ GE307.out | refine below_set ?_ GE315.out) | exact HB.out))); (case side2 => exact HC0.out); rintro e w18 ⟨rfl, hb⟩; refine ⟨_, rfl, ?_⟩; have n0_ := Aside0.mk (Kd.R_below (by (with_reducible repeat (first | apply Kd.R_alloc | apply Kd.R_drewN | apply Kd.R_drew)); exact (Kd.R_mono (Kd.R_far (p := ⟨gb315, 1, none⟩) (Kd.R_far (p := ⟨gb315, 0, none⟩) (Kd.R_types HO311.out BK315.out (by decide)) (fun _ hk => hk.2) (.int .i64 t312)) (fun _ hk => hk.2) (.int .i64 t313)) (fun _ h_ => h_.1))) hb); have n1_ := Aside0.mk (blk_below (g := gb307) (o := .cells #[.int .i64 a1_0, .int .i64 a1_1, .int .i64 a1_2] 24 (0, 0)) (by (with_reducible repeat (first | refine blk_drewN ?_ _ | refine blk_drew ?_ | refine blk_alloc ?_ _)); refine blk_far ?_ NB307_315.out _; (with_reducible repeat (first | refine blk_drewN ?_ _ | refine blk_drew ?_ | refine blk_alloc ?_ _)); refine blk_far ?_ NB307_315.out _; (with_reducible repeat (first | refine blk_drewN ?_ _ | refine blk_drew ?_ | refine blk_alloc ?_ _)); exact BK307.out) hb); have n2_ := Aside0.mk (blk_below (g := gb315) (o := .cells #[.int .i64 t312, .int .i64 t313] 27 (0, 0)) (by (with_reducible repeat (first | refine blk_drewN ?_ _ | refine blk_drew ?_ | refine blk_alloc ?_ _)); refine blk_put (cs := #[.int .i64 t312, .int .i64 0]) ?_ 1 _ rfl; (with_reducible repeat (first | refine blk_drewN ?_ _ | refine blk_drew ?_ | refine blk_alloc ?_ _)); refine blk_put (cs := #[.int .i64 0, .int .i64 0]) ?_ 0 _ rfl; (with_reducible repeat (first | refine blk_drewN ?_ _ | refine blk_drew ?_ | refine blk_alloc ?_ _)); exact BK315.out) hb); have n3_ := Aside0.mk (below_step (by repeat (first | (with_reducible first | exact HB.out | apply below_alloc | apply pw_below_drewN | apply below_drew1 | refine below_set ?_ GE307.out | refine below_set ?_ GE315.out) | exact HB.out)) hb); clear HO311; clear BK307; clear BK315; clear HB; have HO311 := n0_; have BK307 := n1_; have BK315 := n2_; have HB := n3_; clear n0_ n1_ n2_ n3_; (try clear hb); (try clear hb2); (try clear hk); (try clear hi); obtain ⟨Ao19, co19, eo19⟩ := Kd.R_slice HO311.out; subst eo19))
      go_ret
      exact ⟨by first | rfl | (simp [errW_none, errW_some] <;> rfl) | (simp [*, errW_none, errW_some] <;> rfl), by repeat (first | (with_reducible first | exact HB.out | apply below_alloc | apply pw_below_drewN | apply below_drew1 | refine below_set ?_ GE307.out | refine below_set ?_ GE315.out) | exact HB.out)⟩
    rw [if_neg c7] at H
    have c7b0 : (t314 == 9) = false := beq_eq_false_iff_ne.mpr c7
    have c7b1 : (t314 != 9) = true := bne_iff_ne.mpr c7
    by_cases c38 : t314 = 0
    rotate_left
    · rw [if_neg c38] at H
      have c38b0 : (t314 == 0) = false := beq_eq_false_iff_ne.mpr c38
      have c38b1 : (t314 != 0) = true := bne_iff_ne.mpr c38
      by_cases c106 : t314 = 1
      rotate_left
      · rw [if_neg c106] at H
        have c106b0 : (t314 == 1) = false := beq_eq_false_iff_ne.mpr c106
        have c106b1 : (t314 != 1) = true := bne_iff_ne.mpr c106
        exact absurd (Option.some.inj H) (by rw [hT]; decide)
      rw [if_pos c106] at H
      have c106b0 : (t314 == 1) = true := beq_iff_eq.mpr c106
      have c106b1 : (t314 != 1) = false := bne_eq_false_iff_eq.mpr c106
      clear c106
      by_cases c107 : (t309.length : Int) = 0
      rotate_left
      · rw [if_neg c107] at H
        have c107b0 : ((t309.length : Int) == 0) = false := beq_eq_false_iff_ne.mpr c107
        have c107b1 : ((t309.length : Int) != 0) = true := bne_iff_ne.mpr c107
        have c107b2 : ¬ (t309 = []) := fun h_ => c107 (by rw [h_]; rfl)
        exact absurd (Option.some.inj H) (by rw [hT]; decide)
      rw [if_pos c107] at H
      have c107b0 : ((t309.length : Int) == 0) = true := beq_iff_eq.mpr c107
      have c107b1 : ((t309.length : Int) != 0) = false := bne_eq_false_iff_eq.mpr c107
      clear c107
      obtain rfl := Option.some.inj H
      go_enter Try.func8, Try.ntmps8
      go_wp2_with (first | ((with_reducible refine gate_dst (N := 3) rfl ?_); (try (refine gate_guard (by rfl) ?_; dsimp only)); refine box_event ?hg (N := 3) ?hd (cs := #[.int .i64 a1_0, .int .i64 a1_1, .int .i64 a1_2]) (t := 24) ?hr ?_; (case hd => rfl); (case hg => rfl); (case hr => go_simp; first | done | rfl); intro gb307 hg w108 hbox hb; have n0_ := Aside0.mk (below_step (by repeat (first | (with_reducible first | exact HB.out | apply below_alloc | apply pw_below_drewN | apply below_drew1) | exact HB.out)) hb); have n1_ := Aside0.mk (hbox); have n2_ := Aside0.mk ((by rw [hg]; exact (below_size (by repeat (first | (with_reducible first | exact HB.out | apply below_alloc | apply pw_below_drewN | apply below_drew1) | exact HB.out))) : w.heap.size ≤ gb307)); have n3_ := Aside0.mk ((by rw [hg]; exact (below_size (by repeat (first | (with_reducible first | exact HB.out | apply below_alloc | apply pw_below_drewN | apply below_drew1) | exact HB.out))) : w.heap.size ≤ gb307)); clear HB; have HB := n0_; have BK307 := n1_; have GW307 := n2_; have GE307 := n3_; clear n0_ n1_ n2_ n3_; clear hb hbox hg) | ((with_reducible refine gate_callee (f := 10) rfl ?_); refine goesL_ (some 14) rfl rfl Try.func10 (by kernel_rfl) rfl #[] rfl (by (try simp only [List.map_toArray, List.map_cons, List.map_nil]); first | done | rfl | (simp only [List.length_drop, List.length_take]; rfl)) ?_; (with_reducible refine (undercroftlaw08_alive.calls k  true _ A3.out rfl).mono ?_); rintro e w109 ⟨rfl, hb⟩; refine ⟨_, rfl, ?_⟩; have n0_ := Aside0.mk (blk_below (g := gb307) (o := .cells #[.int .i64 a1_0, .int .i64 a1_1, .int .i64 a1_2] 24 (0, 0)) (by (with_reducible repeat (first | refine blk_drewN ?_ _ | refine blk_drew ?_ | refine blk_alloc ?_ _)); exact BK307.out) hb); have n1_ := Aside0.mk (below_step (by repeat (first | (with_reducible first | exact HB.out | apply below_alloc | apply pw_below_drewN | apply below_drew1 | refine below_set ?_ GE307.out) | exact HB.out)) hb); clear BK307; clear HB; have BK307 := n0_; have HB := n1_; clear n0_ n1_; (try clear hb); (try clear hb2); (try clear hk); (try clear hi); have hcz110_0 : w109.cell? ⟨gb307, 0, none⟩ = some (.int .i64 a1_0) := (blk_cell BK307.out 0).trans rfl; have hcz110_1 : w109.cell? ⟨gb307, 1, none⟩ = some (.int .i64 a1_1) := (blk_cell BK307.out 1).trans rfl; have hcz110_2 : w109.cell? ⟨gb307, 2, none⟩ = some (.int .i64 a1_2) := (blk_cell BK307.out 2).trans rfl; have hfz110_0 := blk_frozen BK307.out 0; have hfz110_1 := blk_frozen BK307.out 1; have hfz110_2 := blk_frozen BK307.out 2) | ((with_reducible refine gate_callee (f := 11) rfl ?_); refine goesL_ (some 24) rfl rfl Try.func11 (by kernel_rfl) rfl #[.slice A0 l0.length c0, .int .i64 a1_0, .int .i64 a1_1, .int .i64 a1_2] rfl (by (try simp only [List.map_toArray, List.map_cons, List.map_nil]); first | done | rfl | (simp only [List.length_drop, List.length_take]; rfl)) ?_; (with_reducible refine (buddy_Take.calls k _ _ l0 a1_0 a1_1 a1_2 t309 t312 t313 t314 _ ?side1 ?side2 A5.out).mono ?_); (case side1 => repeat (first | exact (Kd.C_below HR0.out HB.out) | (with_reducible refine Kd.C_alloc ?_ _) | (with_reducible refine Kd.C_drewN ?_ _) | (with_reducible refine Kd.C_drew ?_))); (case side2 => exact HC0.out); rintro e w111 ⟨v310, rfl, ho0, hb⟩; refine ⟨_, rfl, ?_⟩; have n0_ := Aside0.mk (Kd.R_lower ho0 (below_size (by repeat (first | (with_reducible first | exact HB.out | apply below_alloc | apply pw_below_drewN | apply below_drew1 | refine below_set ?_ GE307.out) | exact HB.out)))); have n1_ := Aside0.mk (blk_below (g := gb307) (o := .cells #[.int .i64 a1_0, .int .i64 a1_1, .int .i64 a1_2] 24 (0, 0)) (by (with_reducible repeat (first | refine blk_drewN ?_ _ | refine blk_drew ?_ | refine blk_alloc ?_ _)); exact BK307.out) hb); have n2_ := Aside0.mk (below_step (by repeat (first | (with_reducible first | exact HB.out | apply below_alloc | apply pw_below_drewN | apply below_drew1 | refine below_set ?_ GE307.out) | exact HB.out)) hb); clear BK307; clear HB; have HO311 := n0_; have BK307 := n1_; have HB := n2_; clear n0_ n1_ n2_; (try clear hb); (try clear hb2); (try clear hk); (try clear hi); (try clear ho0)) | ((with_reducible refine gate_dst (N := 6) rfl ?_); (try (refine gate_guard (by rfl) ?_; dsimp only)); refine box_event ?hg (N := 6) ?hd (cs := #[.int .i64 0, .int .i64 0]) (t := 27) ?hr ?_; (case hd => rfl); (case hg => rfl); (case hr => go_simp; first | done | rfl); intro gb315 hg w112 hbox hb; have n0_ := Aside0.mk (Kd.R_below (by (with_reducible repeat (first | apply Kd.R_alloc | apply Kd.R_drewN | apply Kd.R_drew)); exact HO311.out) hb); have n1_ := Aside0.mk (blk_below (g := gb307) (o := .cells #[.int .i64 a1_0, .int .i64 a1_1, .int .i64 a1_2] 24 (0, 0)) (by (with_reducible repeat (first | refine blk_drewN ?_ _ | refine blk_drew ?_ | refine blk_alloc ?_ _)); exact BK307.out) hb); have n2_ := Aside0.mk (below_step (by repeat (first | (with_reducible first | exact HB.out | apply below_alloc | apply pw_below_drewN | apply below_drew1 | refine below_set ?_ GE307.out) | exact HB.out)) hb); have n3_ := Aside0.mk (hbox); have n4_ := Aside0.mk ((by rw [hg]; exact (below_size (by repeat (first | (with_reducible first | exact HB.out | apply below_alloc | apply pw_below_drewN | apply below_drew1 | refine below_set ?_ GE307.out) | exact HB.out))) : w.heap.size ≤ gb315)); have n5_ := Aside0.mk ((by rw [hg]; exact (below_size (by repeat (first | (with_reducible first | exact HB.out | apply below_alloc | apply pw_below_drewN | apply below_drew1 | refine below_set ?_ GE307.out) | exact HB.out))) : w.heap.size ≤ gb315)); have n6_ := Aside0.mk ((by rw [hg]; exact Nat.ne_of_lt (blk_lt (g := gb307) (o := .cells #[.int .i64 a1_0, .int .i64 a1_1, .int .i64 a1_2] 24 (0, 0)) (by (with_reducible repeat (first | refine blk_drewN ?_ _ | refine blk_drew ?_ | refine blk_alloc ?_ _)); exact BK307.out)) : gb307 ≠ gb315)); have n7_ := Aside0.mk ((by rw [hg]; exact Nat.ne_of_gt (blk_lt (g := gb307) (o := .cells #[.int .i64 a1_0, .int .i64 a1_1, .int .i64 a1_2] 24 (0, 0)) (by (with_reducible repeat (first | refine blk_drewN ?_ _ | refine blk_drew ?_ | refine blk_alloc ?_ _)); exact BK307.out)) : gb315 ≠ gb307)); clear HO311; clear BK307; clear HB; have HO311 := n0_; have BK307 := n1_; have HB := n2_; have BK315 := n3_; have GW315 := n4_; have GE315 := n5_; have NB307_315 := n6_; have NB315_307 := n7_; clear n0_ n1_ n2_ n3_ n4_ n5_ n6_ n7_; clear hb hbox hg; have hnb113 := NB315_307.out; have hnc113 := NB307_315.out; have hcz114_0 : w112.cell? ⟨gb315, 0, none⟩ = some (.int .i64 0) := (blk_cell BK315.out 0).trans rfl; have hcz114_1 : w112.cell? ⟨gb315, 1, none⟩ = some (.int .i64 0) := (blk_cell BK315.out 1).trans rfl; have hfz114_0 := blk_frozen BK315.out 0; have hfz114_1 := blk_frozen BK315.out 1; have hcz115_0 : w112.cell? ⟨gb307, 0, none⟩ = some (.int .i64 a1_0) := (blk_cell BK307.out 0).trans rfl; have hcz115_1 : w112.cell? ⟨gb307, 1, none⟩ = some (.int .i64 a1_1) := (blk_cell BK307.out 1).trans rfl; have hcz115_2 : w112.cell? ⟨gb307, 2, none⟩ = some (.int .i64 a1_2) := (blk_cell BK307.out 2).trans rfl; have hfz115_0 := blk_frozen BK307.out 0; have hfz115_1 := blk_frozen BK307.out 1; have hfz115_2 := blk_frozen BK307.out 2) | ((with_reducible refine gate_callee (f := 14) rfl ?_); refine goesL_ (some 32) rfl rfl Try.func14 (by kernel_rfl) rfl #[.slice A0 l0.length c0, .int .i64 a1_0] rfl (by (try simp only [List.map_toArray, List.map_cons, List.map_nil]); first | done | rfl | (simp only [List.length_drop, List.length_take]; rfl)) ?_; (with_reducible refine (buddy_Free.calls k _ _ l0 a1_0 t316 t317 _ ?side1 ?side2 A6.out).mono ?_); (case side1 => exact Kd.C_below HR0.out (by repeat (first | (with_reducible first | exact HB.out | apply below_alloc | apply pw_below_drewN | apply below_drew1 | refine below_set ?_ GE307.out | refine below_set ?_ GE315.out) | exact HB.out))); (case side2 => exact HC0.out); rintro e w116 ⟨rfl, hb⟩; refine ⟨_, rfl, ?_⟩; have n0_ := Aside0.mk (Kd.R_below (by (with_reducible repeat (first | apply Kd.R_alloc | apply Kd.R_drewN | apply Kd.R_drew)); exact (Kd.R_mono (Kd.R_far (p := ⟨gb315, 1, none⟩) (Kd.R_far (p := ⟨gb315, 0, none⟩) (Kd.R_types HO311.out BK315.out (by decide)) (fun _ hk => hk.2) (.int .i64 t312)) (fun _ hk => hk.2) (.int .i64 t313)) (fun _ h_ => h_.1))) hb); have n1_ := Aside0.mk (blk_below (g := gb307) (o := .cells #[.int .i64 a1_0, .int .i64 a1_1, .int .i64 a1_2] 24 (0, 0)) (by (with_reducible repeat (first | refine blk_drewN ?_ _ | refine blk_drew ?_ | refine blk_alloc ?_ _)); refine blk_far ?_ NB307_315.out _; (with_reducible repeat (first | refine blk_drewN ?_ _ | refine blk_drew ?_ | refine blk_alloc ?_ _)); refine blk_far ?_ NB307_315.out _; (with_reducible repeat (first | refine blk_drewN ?_ _ | refine blk_drew ?_ | refine blk_alloc ?_ _)); exact BK307.out) hb); have n2_ := Aside0.mk (blk_below (g := gb315) (o := .cells #[.int .i64 t312, .int .i64 t313] 27 (0, 0)) (by (with_reducible repeat (first | refine blk_drewN ?_ _ | refine blk_drew ?_ | refine blk_alloc ?_ _)); refine blk_put (cs := #[.int .i64 t312, .int .i64 0]) ?_ 1 _ rfl; (with_reducible repeat (first | refine blk_drewN ?_ _ | refine blk_drew ?_ | refine blk_alloc ?_ _)); refine blk_put (cs := #[.int .i64 0, .int .i64 0]) ?_ 0 _ rfl; (with_reducible repeat (first | refine blk_drewN ?_ _ | refine blk_drew ?_ | refine blk_alloc ?_ _)); exact BK315.out) hb); have n3_ := Aside0.mk (below_step (by repeat (first | (with_reducible first | exact HB.out | apply below_alloc | apply pw_below_drewN | apply below_drew1 | refine below_set ?_ GE307.out | refine below_set ?_ GE315.out) | exact HB.out)) hb); clear HO311; clear BK307; clear BK315; clear HB; have HO311 := n0_; have BK307 := n1_; have BK315 := n2_; have HB := n3_; clear n0_ n1_ n2_ n3_; (try clear hb); (try clear hb2); (try clear hk); (try clear hi); obtain ⟨Ao117, co117, eo117⟩ := Kd.R_slice HO311.out; subst eo117; have hcz118_0 : w116.cell? ⟨gb315, 0, none⟩ = some (.int .i64 t312) := (blk_cell BK315.out 0).trans rfl; have hcz118_1 : w116.cell? ⟨gb315, 1, none⟩ = some (.int .i64 t313) := (blk_cell BK315.out 1).trans rfl; have hfz118_0 := blk_frozen BK315.out 0; have hfz118_1 := blk_frozen BK315.out 1))
      go_ret
      exact ⟨by first | rfl | (simp [errW_none, errW_some] <;> rfl) | (simp [*, errW_none, errW_some] <;> rfl), by repeat (first | (with_reducible first | exact HB.out | apply below_alloc | apply pw_below_drewN | apply below_drew1 | refine below_set ?_ GE307.out | refine below_set ?_ GE315.out) | exact HB.out)⟩
    rw [if_pos c38] at H
    have c38b0 : (t314 == 0) = true := beq_iff_eq.mpr c38
    have c38b1 : (t314 != 0) = false := bne_eq_false_iff_eq.mpr c38
    clear c38
    have HC39 := Aside0.mk H
    clear H
    go_enter Try.func8, Try.ntmps8
    go_upto_region 9 with (first | ((with_reducible refine gate_dst (N := 3) rfl ?_); (try (refine gate_guard (by rfl) ?_; dsimp only)); refine box_event ?hg (N := 3) ?hd (cs := #[.int .i64 a1_0, .int .i64 a1_1, .int .i64 a1_2]) (t := 24) ?hr ?_; (case hd => rfl); (case hg => rfl); (case hr => go_simp; first | done | rfl); intro gb307 hg w40 hbox hb; have n0_ := Aside0.mk (below_step (by repeat (first | (with_reducible first | exact HB.out | apply below_alloc | apply pw_below_drewN | apply below_drew1) | exact HB.out)) hb); have n1_ := Aside0.mk (hbox); have n2_ := Aside0.mk ((by rw [hg]; exact (below_size (by repeat (first | (with_reducible first | exact HB.out | apply below_alloc | apply pw_below_drewN | apply below_drew1) | exact HB.out))) : w.heap.size ≤ gb307)); have n3_ := Aside0.mk ((by rw [hg]; exact (below_size (by repeat (first | (with_reducible first | exact HB.out | apply below_alloc | apply pw_below_drewN | apply below_drew1) | exact HB.out))) : w.heap.size ≤ gb307)); clear HB; have HB := n0_; have BK307 := n1_; have GW307 := n2_; have GE307 := n3_; clear n0_ n1_ n2_ n3_; clear hb hbox hg) | ((with_reducible refine gate_callee (f := 10) rfl ?_); refine goesL_ (some 14) rfl rfl Try.func10 (by kernel_rfl) rfl #[] rfl (by (try simp only [List.map_toArray, List.map_cons, List.map_nil]); first | done | rfl | (simp only [List.length_drop, List.length_take]; rfl)) ?_; (with_reducible refine (undercroftlaw08_alive.calls k  true _ A3.out rfl).mono ?_); rintro e w41 ⟨rfl, hb⟩; refine ⟨_, rfl, ?_⟩; have n0_ := Aside0.mk (blk_below (g := gb307) (o := .cells #[.int .i64 a1_0, .int .i64 a1_1, .int .i64 a1_2] 24 (0, 0)) (by (with_reducible repeat (first | refine blk_drewN ?_ _ | refine blk_drew ?_ | refine blk_alloc ?_ _)); exact BK307.out) hb); have n1_ := Aside0.mk (below_step (by repeat (first | (with_reducible first | exact HB.out | apply below_alloc | apply pw_below_drewN | apply below_drew1 | refine below_set ?_ GE307.out) | exact HB.out)) hb); clear BK307; clear HB; have BK307 := n0_; have HB := n1_; clear n0_ n1_; (try clear hb); (try clear hb2); (try clear hk); (try clear hi); have hcz42_0 : w41.cell? ⟨gb307, 0, none⟩ = some (.int .i64 a1_0) := (blk_cell BK307.out 0).trans rfl; have hcz42_1 : w41.cell? ⟨gb307, 1, none⟩ = some (.int .i64 a1_1) := (blk_cell BK307.out 1).trans rfl; have hcz42_2 : w41.cell? ⟨gb307, 2, none⟩ = some (.int .i64 a1_2) := (blk_cell BK307.out 2).trans rfl; have hfz42_0 := blk_frozen BK307.out 0; have hfz42_1 := blk_frozen BK307.out 1; have hfz42_2 := blk_frozen BK307.out 2) | ((with_reducible refine gate_callee (f := 11) rfl ?_); refine goesL_ (some 24) rfl rfl Try.func11 (by kernel_rfl) rfl #[.slice A0 l0.length c0, .int .i64 a1_0, .int .i64 a1_1, .int .i64 a1_2] rfl (by (try simp only [List.map_toArray, List.map_cons, List.map_nil]); first | done | rfl | (simp only [List.length_drop, List.length_take]; rfl)) ?_; (with_reducible refine (buddy_Take.calls k _ _ l0 a1_0 a1_1 a1_2 t309 t312 t313 t314 _ ?side1 ?side2 A5.out).mono ?_); (case side1 => repeat (first | exact (Kd.C_below HR0.out HB.out) | (with_reducible refine Kd.C_alloc ?_ _) | (with_reducible refine Kd.C_drewN ?_ _) | (with_reducible refine Kd.C_drew ?_))); (case side2 => exact HC0.out); rintro e w43 ⟨v310, rfl, ho0, hb⟩; refine ⟨_, rfl, ?_⟩; have n0_ := Aside0.mk (Kd.R_lower ho0 (below_size (by repeat (first | (with_reducible first | exact HB.out | apply below_alloc | apply pw_below_drewN | apply below_drew1 | refine below_set ?_ GE307.out) | exact HB.out)))); have n1_ := Aside0.mk (blk_below (g := gb307) (o := .cells #[.int .i64 a1_0, .int .i64 a1_1, .int .i64 a1_2] 24 (0, 0)) (by (with_reducible repeat (first | refine blk_drewN ?_ _ | refine blk_drew ?_ | refine blk_alloc ?_ _)); exact BK307.out) hb); have n2_ := Aside0.mk (below_step (by repeat (first | (with_reducible first | exact HB.out | apply below_alloc | apply pw_below_drewN | apply below_drew1 | refine below_set ?_ GE307.out) | exact HB.out)) hb); clear BK307; clear HB; have HO311 := n0_; have BK307 := n1_; have HB := n2_; clear n0_ n1_ n2_; (try clear hb); (try clear hb2); (try clear hk); (try clear hi); (try clear ho0)) | ((with_reducible refine gate_dst (N := 6) rfl ?_); (try (refine gate_guard (by rfl) ?_; dsimp only)); refine box_event ?hg (N := 6) ?hd (cs := #[.int .i64 0, .int .i64 0]) (t := 27) ?hr ?_; (case hd => rfl); (case hg => rfl); (case hr => go_simp; first | done | rfl); intro gb315 hg w44 hbox hb; have n0_ := Aside0.mk (Kd.R_below (by (with_reducible repeat (first | apply Kd.R_alloc | apply Kd.R_drewN | apply Kd.R_drew)); exact HO311.out) hb); have n1_ := Aside0.mk (blk_below (g := gb307) (o := .cells #[.int .i64 a1_0, .int .i64 a1_1, .int .i64 a1_2] 24 (0, 0)) (by (with_reducible repeat (first | refine blk_drewN ?_ _ | refine blk_drew ?_ | refine blk_alloc ?_ _)); exact BK307.out) hb); have n2_ := Aside0.mk (below_step (by repeat (first | (with_reducible first | exact HB.out | apply below_alloc | apply pw_below_drewN | apply below_drew1 | refine below_set ?_ GE307.out) | exact HB.out)) hb); have n3_ := Aside0.mk (hbox); have n4_ := Aside0.mk ((by rw [hg]; exact (below_size (by repeat (first | (with_reducible first | exact HB.out | apply below_alloc | apply pw_below_drewN | apply below_drew1 | refine below_set ?_ GE307.out) | exact HB.out))) : w.heap.size ≤ gb315)); have n5_ := Aside0.mk ((by rw [hg]; exact (below_size (by repeat (first | (with_reducible first | exact HB.out | apply below_alloc | apply pw_below_drewN | apply below_drew1 | refine below_set ?_ GE307.out) | exact HB.out))) : w.heap.size ≤ gb315)); have n6_ := Aside0.mk ((by rw [hg]; exact Nat.ne_of_lt (blk_lt (g := gb307) (o := .cells #[.int .i64 a1_0, .int .i64 a1_1, .int .i64 a1_2] 24 (0, 0)) (by (with_reducible repeat (first | refine blk_drewN ?_ _ | refine blk_drew ?_ | refine blk_alloc ?_ _)); exact BK307.out)) : gb307 ≠ gb315)); have n7_ := Aside0.mk ((by rw [hg]; exact Nat.ne_of_gt (blk_lt (g := gb307) (o := .cells #[.int .i64 a1_0, .int .i64 a1_1, .int .i64 a1_2] 24 (0, 0)) (by (with_reducible repeat (first | refine blk_drewN ?_ _ | refine blk_drew ?_ | refine blk_alloc ?_ _)); exact BK307.out)) : gb315 ≠ gb307)); clear HO311; clear BK307; clear HB; have HO311 := n0_; have BK307 := n1_; have HB := n2_; have BK315 := n3_; have GW315 := n4_; have GE315 := n5_; have NB307_315 := n6_; have NB315_307 := n7_; clear n0_ n1_ n2_ n3_ n4_ n5_ n6_ n7_; clear hb hbox hg; have hnb45 := NB315_307.out; have hnc45 := NB307_315.out; have hcz46_0 : w44.cell? ⟨gb315, 0, none⟩ = some (.int .i64 0) := (blk_cell BK315.out 0).trans rfl; have hcz46_1 : w44.cell? ⟨gb315, 1, none⟩ = some (.int .i64 0) := (blk_cell BK315.out 1).trans rfl; have hfz46_0 := blk_frozen BK315.out 0; have hfz46_1 := blk_frozen BK315.out 1; have hcz47_0 : w44.cell? ⟨gb307, 0, none⟩ = some (.int .i64 a1_0) := (blk_cell BK307.out 0).trans rfl; have hcz47_1 : w44.cell? ⟨gb307, 1, none⟩ = some (.int .i64 a1_1) := (blk_cell BK307.out 1).trans rfl; have hcz47_2 : w44.cell? ⟨gb307, 2, none⟩ = some (.int .i64 a1_2) := (blk_cell BK307.out 2).trans rfl; have hfz47_0 := blk_frozen BK307.out 0; have hfz47_1 := blk_frozen BK307.out 1; have hfz47_2 := blk_frozen BK307.out 2) | ((with_reducible refine gate_callee (f := 14) rfl ?_); refine goesL_ (some 32) rfl rfl Try.func14 (by kernel_rfl) rfl #[.slice A0 l0.length c0, .int .i64 a1_0] rfl (by (try simp only [List.map_toArray, List.map_cons, List.map_nil]); first | done | rfl | (simp only [List.length_drop, List.length_take]; rfl)) ?_; (with_reducible refine (buddy_Free.calls k _ _ l0 a1_0 t316 t317 _ ?side1 ?side2 A6.out).mono ?_); (case side1 => exact Kd.C_below HR0.out (by repeat (first | (with_reducible first | exact HB.out | apply below_alloc | apply pw_below_drewN | apply below_drew1 | refine below_set ?_ GE307.out | refine below_set ?_ GE315.out) | exact HB.out))); (case side2 => exact HC0.out); rintro e w48 ⟨rfl, hb⟩; refine ⟨_, rfl, ?_⟩; have n0_ := Aside0.mk (Kd.R_below (by (with_reducible repeat (first | apply Kd.R_alloc | apply Kd.R_drewN | apply Kd.R_drew)); exact (Kd.R_mono (Kd.R_far (p := ⟨gb315, 1, none⟩) (Kd.R_far (p := ⟨gb315, 0, none⟩) (Kd.R_types HO311.out BK315.out (by decide)) (fun _ hk => hk.2) (.int .i64 t312)) (fun _ hk => hk.2) (.int .i64 t313)) (fun _ h_ => h_.1))) hb); have n1_ := Aside0.mk (blk_below (g := gb307) (o := .cells #[.int .i64 a1_0, .int .i64 a1_1, .int .i64 a1_2] 24 (0, 0)) (by (with_reducible repeat (first | refine blk_drewN ?_ _ | refine blk_drew ?_ | refine blk_alloc ?_ _)); refine blk_far ?_ NB307_315.out _; (with_reducible repeat (first | refine blk_drewN ?_ _ | refine blk_drew ?_ | refine blk_alloc ?_ _)); refine blk_far ?_ NB307_315.out _; (with_reducible repeat (first | refine blk_drewN ?_ _ | refine blk_drew ?_ | refine blk_alloc ?_ _)); exact BK307.out) hb); have n2_ := Aside0.mk (blk_below (g := gb315) (o := .cells #[.int .i64 t312, .int .i64 t313] 27 (0, 0)) (by (with_reducible repeat (first | refine blk_drewN ?_ _ | refine blk_drew ?_ | refine blk_alloc ?_ _)); refine blk_put (cs := #[.int .i64 t312, .int .i64 0]) ?_ 1 _ rfl; (with_reducible repeat (first | refine blk_drewN ?_ _ | refine blk_drew ?_ | refine blk_alloc ?_ _)); refine blk_put (cs := #[.int .i64 0, .int .i64 0]) ?_ 0 _ rfl; (with_reducible repeat (first | refine blk_drewN ?_ _ | refine blk_drew ?_ | refine blk_alloc ?_ _)); exact BK315.out) hb); have n3_ := Aside0.mk (below_step (by repeat (first | (with_reducible first | exact HB.out | apply below_alloc | apply pw_below_drewN | apply below_drew1 | refine below_set ?_ GE307.out | refine below_set ?_ GE315.out) | exact HB.out)) hb); clear HO311; clear BK307; clear BK315; clear HB; have HO311 := n0_; have BK307 := n1_; have BK315 := n2_; have HB := n3_; clear n0_ n1_ n2_ n3_; (try clear hb); (try clear hb2); (try clear hk); (try clear hi)))
    (try simp only [Act.put, List.setIfInBounds_toArray, List.set_cons_zero, List.set_cons_succ])
    go_cut [101] (fun v101 wc => ∃ (kq : Nat) (x101_38 : Bool), v101 = .bool x101_38 ∧ Aside0 (undercroftlaw08_BuddyFree.j0 kq l0 t309 x101_38 a1_0 a1_1 a1_2 t312 t313 = some r) ∧ Aside0 (kq ≤ k) ∧ Aside0 (Kd.R (Kd.int .u8) 5 wc w.heap.size (fun _ => True) v310 t309) ∧ Aside0 (wc.heap[gb307]? = some (.cells #[.int .i64 a1_0, .int .i64 a1_1, .int .i64 a1_2] 24 (0, 0))) ∧ Aside0 (wc.heap[gb315]? = some (.cells #[.int .i64 t312, .int .i64 t313] 27 (0, 0))) ∧ Aside0 (Below w.heap.size w wc))
    case first =>
      have H := HC39.out
      clear HC39
      by_cases c49 : t317 = 0
      rotate_left
      · rw [if_neg c49] at H
        have c49b0 : (t317 == 0) = false := beq_eq_false_iff_ne.mpr c49
        have c49b1 : (t317 != 0) = true := bne_iff_ne.mpr c49
        (first | rw [c49b0] | (simp only [i64_w, i32_w]; rw [c49b0]) | skip)
        have H' := Aside0.mk H
        clear H
        go_wp2
        go_meet
        case rel => exact ⟨_, (true), (by first | rfl | (simp; done) | (simp [*]; done)), H', ⟨by first | omega | exact Nat.le_refl _⟩, ⟨by (with_reducible repeat (first | apply Kd.R_alloc | apply Kd.R_drewN | apply Kd.R_drew)); exact HO311.out⟩, ⟨by (with_reducible repeat (first | refine blk_drewN ?_ _ | refine blk_drew ?_ | refine blk_alloc ?_ _)); exact BK307.out⟩, ⟨by (with_reducible repeat (first | refine blk_drewN ?_ _ | refine blk_drew ?_ | refine blk_alloc ?_ _)); exact BK315.out⟩, ⟨by repeat (first | (with_reducible first | exact HB.out | apply below_alloc | apply pw_below_drewN | apply below_drew1 | refine below_set ?_ GE307.out | refine below_set ?_ GE315.out) | exact HB.out)⟩⟩
      rw [if_pos c49] at H
      have c49b0 : (t317 == 0) = true := beq_iff_eq.mpr c49
      have c49b1 : (t317 != 0) = false := bne_eq_false_iff_eq.mpr c49
      clear c49
      (first | rw [c49b0] | (simp only [i64_w, i32_w]; rw [c49b0]) | skip)
      by_cases c50 : t316 = 0
      · rw [if_pos c50] at H
        have c50b0 : (t316 == 0) = true := beq_iff_eq.mpr c50
        have c50b1 : (t316 != 0) = false := bne_eq_false_iff_eq.mpr c50
        clear c50
        have H' := Aside0.mk H
        clear H
        go_wp2
        go_meet
        case rel => exact ⟨_, (true), (by first | rfl | (simp; done) | (simp [*]; done)), H', ⟨by first | omega | exact Nat.le_refl _⟩, ⟨by (with_reducible repeat (first | apply Kd.R_alloc | apply Kd.R_drewN | apply Kd.R_drew)); exact HO311.out⟩, ⟨by (with_reducible repeat (first | refine blk_drewN ?_ _ | refine blk_drew ?_ | refine blk_alloc ?_ _)); exact BK307.out⟩, ⟨by (with_reducible repeat (first | refine blk_drewN ?_ _ | refine blk_drew ?_ | refine blk_alloc ?_ _)); exact BK315.out⟩, ⟨by repeat (first | (with_reducible first | exact HB.out | apply below_alloc | apply pw_below_drewN | apply below_drew1 | refine below_set ?_ GE307.out | refine below_set ?_ GE315.out) | exact HB.out)⟩⟩
      rw [if_neg c50] at H
      have c50b0 : (t316 == 0) = false := beq_eq_false_iff_ne.mpr c50
      have c50b1 : (t316 != 0) = true := bne_iff_ne.mpr c50
      by_cases c51 : t313 < 1
      · rw [if_pos c51] at H
        have c51b0 : decide (t313 < 1) = true := decide_eq_true c51
        clear c51
        have H' := Aside0.mk H
        clear H
        have hnb52 := NB315_307.out
        have hnc52 := NB307_315.out
        have hcz53_0 : w48.cell? ⟨gb315, 0, none⟩ = some (.int .i64 t312) := (blk_cell BK315.out 0).trans rfl
        have hcz53_1 : w48.cell? ⟨gb315, 1, none⟩ = some (.int .i64 t313) := (blk_cell BK315.out 1).trans rfl
        have hfz53_0 := blk_frozen BK315.out 0
        have hfz53_1 := blk_frozen BK315.out 1
        go_wp2
        go_meet
        case rel => exact ⟨_, (true), (by first | rfl | (simp; done) | (simp [*]; done)), H', ⟨by first | omega | exact Nat.le_refl _⟩, ⟨by (with_reducible repeat (first | apply Kd.R_alloc | apply Kd.R_drewN | apply Kd.R_drew)); exact HO311.out⟩, ⟨by (with_reducible repeat (first | refine blk_drewN ?_ _ | refine blk_drew ?_ | refine blk_alloc ?_ _)); exact BK307.out⟩, ⟨by (with_reducible repeat (first | refine blk_drewN ?_ _ | refine blk_drew ?_ | refine blk_alloc ?_ _)); exact BK315.out⟩, ⟨by repeat (first | (with_reducible first | exact HB.out | apply below_alloc | apply pw_below_drewN | apply below_drew1 | refine below_set ?_ GE307.out | refine below_set ?_ GE315.out) | exact HB.out)⟩⟩
      rw [if_neg c51] at H
      have c51b0 : decide (t313 < 1) = false := decide_eq_false c51
      clear c51
      by_cases c54 : t313 > a1_1
      · rw [if_pos c54] at H
        have c54b0 : decide (a1_1 < t313) = true := decide_eq_true c54
        clear c54
        have H' := Aside0.mk H
        clear H
        have hnb55 := NB315_307.out
        have hnc55 := NB307_315.out
        have hcz56_0 : w48.cell? ⟨gb315, 0, none⟩ = some (.int .i64 t312) := (blk_cell BK315.out 0).trans rfl
        have hcz56_1 : w48.cell? ⟨gb315, 1, none⟩ = some (.int .i64 t313) := (blk_cell BK315.out 1).trans rfl
        have hfz56_0 := blk_frozen BK315.out 0
        have hfz56_1 := blk_frozen BK315.out 1
        have hcz57_0 : w48.cell? ⟨gb307, 0, none⟩ = some (.int .i64 a1_0) := (blk_cell BK307.out 0).trans rfl
        have hcz57_1 : w48.cell? ⟨gb307, 1, none⟩ = some (.int .i64 a1_1) := (blk_cell BK307.out 1).trans rfl
        have hcz57_2 : w48.cell? ⟨gb307, 2, none⟩ = some (.int .i64 a1_2) := (blk_cell BK307.out 2).trans rfl
        have hfz57_0 := blk_frozen BK307.out 0
        have hfz57_1 := blk_frozen BK307.out 1
        have hfz57_2 := blk_frozen BK307.out 2
        go_wp2
        go_meet
        case rel => exact ⟨_, (true), (by first | rfl | (simp; done) | (simp [*]; done)), H', ⟨by first | omega | exact Nat.le_refl _⟩, ⟨by (with_reducible repeat (first | apply Kd.R_alloc | apply Kd.R_drewN | apply Kd.R_drew)); exact HO311.out⟩, ⟨by (with_reducible repeat (first | refine blk_drewN ?_ _ | refine blk_drew ?_ | refine blk_alloc ?_ _)); exact BK307.out⟩, ⟨by (with_reducible repeat (first | refine blk_drewN ?_ _ | refine blk_drew ?_ | refine blk_alloc ?_ _)); exact BK315.out⟩, ⟨by repeat (first | (with_reducible first | exact HB.out | apply below_alloc | apply pw_below_drewN | apply below_drew1 | refine below_set ?_ GE307.out | refine below_set ?_ GE315.out) | exact HB.out)⟩⟩
      rw [if_neg c54] at H
      have c54b0 : decide (a1_1 < t313) = false := decide_eq_false c54
      clear c54
      by_cases c58 : t312 < 0
      · rw [if_pos c58] at H
        have c58b0 : decide (t312 < 0) = true := decide_eq_true c58
        clear c58
        have H' := Aside0.mk H
        clear H
        have hnb59 := NB315_307.out
        have hnc59 := NB307_315.out
        have hcz60_0 : w48.cell? ⟨gb315, 0, none⟩ = some (.int .i64 t312) := (blk_cell BK315.out 0).trans rfl
        have hcz60_1 : w48.cell? ⟨gb315, 1, none⟩ = some (.int .i64 t313) := (blk_cell BK315.out 1).trans rfl
        have hfz60_0 := blk_frozen BK315.out 0
        have hfz60_1 := blk_frozen BK315.out 1
        have hcz61_0 : w48.cell? ⟨gb307, 0, none⟩ = some (.int .i64 a1_0) := (blk_cell BK307.out 0).trans rfl
        have hcz61_1 : w48.cell? ⟨gb307, 1, none⟩ = some (.int .i64 a1_1) := (blk_cell BK307.out 1).trans rfl
        have hcz61_2 : w48.cell? ⟨gb307, 2, none⟩ = some (.int .i64 a1_2) := (blk_cell BK307.out 2).trans rfl
        have hfz61_0 := blk_frozen BK307.out 0
        have hfz61_1 := blk_frozen BK307.out 1
        have hfz61_2 := blk_frozen BK307.out 2
        go_wp2
        go_meet
        case rel => exact ⟨_, (true), (by first | rfl | (simp; done) | (simp [*]; done)), H', ⟨by first | omega | exact Nat.le_refl _⟩, ⟨by (with_reducible repeat (first | apply Kd.R_alloc | apply Kd.R_drewN | apply Kd.R_drew)); exact HO311.out⟩, ⟨by (with_reducible repeat (first | refine blk_drewN ?_ _ | refine blk_drew ?_ | refine blk_alloc ?_ _)); exact BK307.out⟩, ⟨by (with_reducible repeat (first | refine blk_drewN ?_ _ | refine blk_drew ?_ | refine blk_alloc ?_ _)); exact BK315.out⟩, ⟨by repeat (first | (with_reducible first | exact HB.out | apply below_alloc | apply pw_below_drewN | apply below_drew1 | refine below_set ?_ GE307.out | refine below_set ?_ GE315.out) | exact HB.out)⟩⟩
      rw [if_neg c58] at H
      have c58b0 : decide (t312 < 0) = false := decide_eq_false c58
      clear c58
      by_cases c62 : t312 > (wrap64 (a1_0 - t313))
      · rw [if_pos c62] at H
        have c62b0 : decide ((wrap64 (a1_0 - t313)) < t312) = true := decide_eq_true c62
        clear c62
        have H' := Aside0.mk H
        clear H
        have hnb63 := NB315_307.out
        have hnc63 := NB307_315.out
        have hcz64_0 : w48.cell? ⟨gb315, 0, none⟩ = some (.int .i64 t312) := (blk_cell BK315.out 0).trans rfl
        have hcz64_1 : w48.cell? ⟨gb315, 1, none⟩ = some (.int .i64 t313) := (blk_cell BK315.out 1).trans rfl
        have hfz64_0 := blk_frozen BK315.out 0
        have hfz64_1 := blk_frozen BK315.out 1
        have hcz65_0 : w48.cell? ⟨gb307, 0, none⟩ = some (.int .i64 a1_0) := (blk_cell BK307.out 0).trans rfl
        have hcz65_1 : w48.cell? ⟨gb307, 1, none⟩ = some (.int .i64 a1_1) := (blk_cell BK307.out 1).trans rfl
        have hcz65_2 : w48.cell? ⟨gb307, 2, none⟩ = some (.int .i64 a1_2) := (blk_cell BK307.out 2).trans rfl
        have hfz65_0 := blk_frozen BK307.out 0
        have hfz65_1 := blk_frozen BK307.out 1
        have hfz65_2 := blk_frozen BK307.out 2
        go_wp2
        go_meet
        case rel => exact ⟨_, (true), (by first | rfl | (simp; done) | (simp [*]; done)), H', ⟨by first | omega | exact Nat.le_refl _⟩, ⟨by (with_reducible repeat (first | apply Kd.R_alloc | apply Kd.R_drewN | apply Kd.R_drew)); exact HO311.out⟩, ⟨by (with_reducible repeat (first | refine blk_drewN ?_ _ | refine blk_drew ?_ | refine blk_alloc ?_ _)); exact BK307.out⟩, ⟨by (with_reducible repeat (first | refine blk_drewN ?_ _ | refine blk_drew ?_ | refine blk_alloc ?_ _)); exact BK315.out⟩, ⟨by repeat (first | (with_reducible first | exact HB.out | apply below_alloc | apply pw_below_drewN | apply below_drew1 | refine below_set ?_ GE307.out | refine below_set ?_ GE315.out) | exact HB.out)⟩⟩
      rw [if_neg c62] at H
      have c62b0 : decide ((wrap64 (a1_0 - t313)) < t312) = false := decide_eq_false c62
      clear c62
      have H' := Aside0.mk H
      clear H
      have hnb66 := NB315_307.out
      have hnc66 := NB307_315.out
      have hcz67_0 : w48.cell? ⟨gb315, 0, none⟩ = some (.int .i64 t312) := (blk_cell BK315.out 0).trans rfl
      have hcz67_1 : w48.cell? ⟨gb315, 1, none⟩ = some (.int .i64 t313) := (blk_cell BK315.out 1).trans rfl
      have hfz67_0 := blk_frozen BK315.out 0
      have hfz67_1 := blk_frozen BK315.out 1
      have hcz68_0 : w48.cell? ⟨gb307, 0, none⟩ = some (.int .i64 a1_0) := (blk_cell BK307.out 0).trans rfl
      have hcz68_1 : w48.cell? ⟨gb307, 1, none⟩ = some (.int .i64 a1_1) := (blk_cell BK307.out 1).trans rfl
      have hcz68_2 : w48.cell? ⟨gb307, 2, none⟩ = some (.int .i64 a1_2) := (blk_cell BK307.out 2).trans rfl
      have hfz68_0 := blk_frozen BK307.out 0
      have hfz68_1 := blk_frozen BK307.out 1
      have hfz68_2 := blk_frozen BK307.out 2
      obtain ⟨Ao69, co69, eo69⟩ := Kd.R_slice HO311.out
      subst eo69
      go_wp2
      go_meet
      case rel => exact ⟨_, (((t309.length : Int) != (l0.length : Int))), (by first | rfl | (simp; done) | (simp [*]; done)), H', ⟨by first | omega | exact Nat.le_refl _⟩, ⟨by (with_reducible repeat (first | apply Kd.R_alloc | apply Kd.R_drewN | apply Kd.R_drew)); exact HO311.out⟩, ⟨by (with_reducible repeat (first | refine blk_drewN ?_ _ | refine blk_drew ?_ | refine blk_alloc ?_ _)); exact BK307.out⟩, ⟨by (with_reducible repeat (first | refine blk_drewN ?_ _ | refine blk_drew ?_ | refine blk_alloc ?_ _)); exact BK315.out⟩, ⟨by repeat (first | (with_reducible first | exact HB.out | apply below_alloc | apply pw_below_drewN | apply below_drew1 | refine below_set ?_ GE307.out | refine below_set ?_ GE315.out) | exact HB.out)⟩⟩
    case rest =>
      clear HC39
      try clear c1
      try clear c2
      try clear p2
      try clear c3
      try clear c4
      try clear c5
      try clear c6
      try clear p6
      try clear c7
      try clear c7b0
      try clear c7b1
      try clear c8
      try clear c8b0
      try clear c8b1
      try clear c9
      try clear c9b0
      try clear c9b1
      try clear c10
      try clear c11
      try clear c14
      try clear c15
      try clear c25
      try clear c34
      try clear c38
      try clear c38b0
      try clear c38b1
      try clear c45
      try clear c49
      try clear c49b0
      try clear c49b1
      try clear c50
      try clear c50b0
      try clear c50b1
      try clear c51
      try clear c51b0
      try clear c52
      try clear c54
      try clear c54b0
      try clear c55
      try clear c58
      try clear c58b0
      try clear c59
      try clear c62
      try clear c62b0
      try clear c63
      try clear p64
      try clear c66
      try clear hcz12_0
      try clear hcz12_1
      try clear hcz12_2
      try clear hcz16_0
      try clear hcz16_1
      try clear hcz17_0
      try clear hcz17_1
      try clear hcz17_2
      try clear hcz22_0
      try clear hcz22_1
      try clear hcz22_2
      try clear hcz26_0
      try clear hcz26_1
      try clear hcz27_0
      try clear hcz27_1
      try clear hcz27_2
      try clear hcz31_0
      try clear hcz31_1
      try clear hcz31_2
      try clear hcz35_0
      try clear hcz35_1
      try clear hcz36_0
      try clear hcz36_1
      try clear hcz36_2
      try clear hcz42_0
      try clear hcz42_1
      try clear hcz42_2
      try clear hcz46_0
      try clear hcz46_1
      try clear hcz47_0
      try clear hcz47_1
      try clear hcz47_2
      try clear hcz53_0
      try clear hcz53_1
      try clear hcz56_0
      try clear hcz56_1
      try clear hcz57_0
      try clear hcz57_1
      try clear hcz57_2
      try clear hcz60_0
      try clear hcz60_1
      try clear hcz61_0
      try clear hcz61_1
      try clear hcz61_2
      try clear hcz64_0
      try clear hcz64_1
      try clear hcz65_0
      try clear hcz65_1
      try clear hcz65_2
      try clear hcz67_0
      try clear hcz67_1
      try clear hcz68_0
      try clear hcz68_1
      try clear hcz68_2
      try clear hfz12_0
      try clear hfz12_1
      try clear hfz12_2
      try clear hfz16_0
      try clear hfz16_1
      try clear hfz17_0
      try clear hfz17_1
      try clear hfz17_2
      try clear hfz22_0
      try clear hfz22_1
      try clear hfz22_2
      try clear hfz26_0
      try clear hfz26_1
      try clear hfz27_0
      try clear hfz27_1
      try clear hfz27_2
      try clear hfz31_0
      try clear hfz31_1
      try clear hfz31_2
      try clear hfz35_0
      try clear hfz35_1
      try clear hfz36_0
      try clear hfz36_1
      try clear hfz36_2
      try clear hfz42_0
      try clear hfz42_1
      try clear hfz42_2
      try clear hfz46_0
      try clear hfz46_1
      try clear hfz47_0
      try clear hfz47_1
      try clear hfz47_2
      try clear hfz53_0
      try clear hfz53_1
      try clear hfz56_0
      try clear hfz56_1
      try clear hfz57_0
      try clear hfz57_1
      try clear hfz57_2
      try clear hfz60_0
      try clear hfz60_1
      try clear hfz61_0
      try clear hfz61_1
      try clear hfz61_2
      try clear hfz64_0
      try clear hfz64_1
      try clear hfz65_0
      try clear hfz65_1
      try clear hfz65_2
      try clear hfz67_0
      try clear hfz67_1
      try clear hfz68_0
      try clear hfz68_1
      try clear hfz68_2
      obtain ⟨kq, x101_38, rfl, HA, HJ38, HO_5, BK307, BK315, HB⟩ := hcut
      cases kq with
      | zero => exact absurd HA.out (by simp [undercroftlaw08_BuddyFree.j0])
      | succ kj38 =>
        have H := HA.out
        clear HA
        simp only [undercroftlaw08_BuddyFree.j0] at H
        by_cases c70 : x101_38 = true
        · subst c70
          have H1 : (some false) = some r := by rw [if_pos rfl] at H; exact H
          clear H
          have H := H1
          clear H1
          exact absurd (Option.some.inj H) (by rw [hT]; decide)
        replace c70 := Bool.eq_false_iff.mpr c70
        subst c70
        have H1 : (undercroftlaw08_BuddyFree.l0 kj38 l0 t309 0 a1_0 a1_1 a1_2 t312 t313) = some r := by rw [if_neg (show ¬ (false = true) by decide)] at H; exact H
        clear H
        have H := H1
        clear H1
        have H' := Aside0.mk H
        clear H
        go_wp2
        go_loopg [10] kj38 (fun kq v10 w' => ∃ (x10_2 : Int), v10 = .int .i64 x10_2 ∧ Aside0 (undercroftlaw08_BuddyFree.l0 kq l0 t309 x10_2 a1_0 a1_1 a1_2 t312 t313 = some r) ∧ Aside0 (kq ≤ kj38) ∧ Aside0 (Kd.R (Kd.int .u8) 5 w' w.heap.size (fun _ => True) v310 t309) ∧ Aside0 (w'.heap[gb307]? = some (.cells #[.int .i64 a1_0, .int .i64 a1_1, .int .i64 a1_2] 24 (0, 0))) ∧ Aside0 (w'.heap[gb315]? = some (.cells #[.int .i64 t312, .int .i64 t313] 27 (0, 0))) ∧ Aside0 (Below w.heap.size w w'))
        case atStart => exact ⟨(0), (by first | rfl | (simp; done) | (simp [*]; done)), H', ⟨Nat.le_refl _⟩, ⟨by (with_reducible repeat (first | apply Kd.R_alloc | apply Kd.R_drewN | apply Kd.R_drew)); exact HO_5.out⟩, ⟨by (with_reducible repeat (first | refine blk_drewN ?_ _ | refine blk_drew ?_ | refine blk_alloc ?_ _)); exact BK307.out⟩, ⟨by (with_reducible repeat (first | refine blk_drewN ?_ _ | refine blk_drew ?_ | refine blk_alloc ?_ _)); exact BK315.out⟩, ⟨by repeat (first | (with_reducible first | exact HB.out | apply below_alloc | apply pw_below_drewN | apply below_drew1 | refine below_set ?_ GE307.out | refine below_set ?_ GE315.out) | exact HB.out)⟩⟩
        case round =>
          clear H'
          try clear c1
          try clear c2
          try clear p2
          try clear c3
          try clear c4
          try clear c5
          try clear c6
          try clear p6
          try clear c7
          try clear c7b0
          try clear c7b1
          try clear c8
          try clear c8b0
          try clear c8b1
          try clear c9
          try clear c9b0
          try clear c9b1
          try clear c10
          try clear c11
          try clear c14
          try clear c15
          try clear c25
          try clear c34
          try clear c38
          try clear c38b0
          try clear c38b1
          try clear c45
          try clear c49
          try clear c49b0
          try clear c49b1
          try clear c50
          try clear c50b0
          try clear c50b1
          try clear c51
          try clear c51b0
          try clear c52
          try clear c54
          try clear c54b0
          try clear c55
          try clear c58
          try clear c58b0
          try clear c59
          try clear c62
          try clear c62b0
          try clear c63
          try clear p64
          try clear c66
          try clear c70
          try clear hcz12_0
          try clear hcz12_1
          try clear hcz12_2
          try clear hcz16_0
          try clear hcz16_1
          try clear hcz17_0
          try clear hcz17_1
          try clear hcz17_2
          try clear hcz22_0
          try clear hcz22_1
          try clear hcz22_2
          try clear hcz26_0
          try clear hcz26_1
          try clear hcz27_0
          try clear hcz27_1
          try clear hcz27_2
          try clear hcz31_0
          try clear hcz31_1
          try clear hcz31_2
          try clear hcz35_0
          try clear hcz35_1
          try clear hcz36_0
          try clear hcz36_1
          try clear hcz36_2
          try clear hcz42_0
          try clear hcz42_1
          try clear hcz42_2
          try clear hcz46_0
          try clear hcz46_1
          try clear hcz47_0
          try clear hcz47_1
          try clear hcz47_2
          try clear hcz53_0
          try clear hcz53_1
          try clear hcz56_0
          try clear hcz56_1
          try clear hcz57_0
          try clear hcz57_1
          try clear hcz57_2
          try clear hcz60_0
          try clear hcz60_1
          try clear hcz61_0
          try clear hcz61_1
          try clear hcz61_2
          try clear hcz64_0
          try clear hcz64_1
          try clear hcz65_0
          try clear hcz65_1
          try clear hcz65_2
          try clear hcz67_0
          try clear hcz67_1
          try clear hcz68_0
          try clear hcz68_1
          try clear hcz68_2
          try clear hfz12_0
          try clear hfz12_1
          try clear hfz12_2
          try clear hfz16_0
          try clear hfz16_1
          try clear hfz17_0
          try clear hfz17_1
          try clear hfz17_2
          try clear hfz22_0
          try clear hfz22_1
          try clear hfz22_2
          try clear hfz26_0
          try clear hfz26_1
          try clear hfz27_0
          try clear hfz27_1
          try clear hfz27_2
          try clear hfz31_0
          try clear hfz31_1
          try clear hfz31_2
          try clear hfz35_0
          try clear hfz35_1
          try clear hfz36_0
          try clear hfz36_1
          try clear hfz36_2
          try clear hfz42_0
          try clear hfz42_1
          try clear hfz42_2
          try clear hfz46_0
          try clear hfz46_1
          try clear hfz47_0
          try clear hfz47_1
          try clear hfz47_2
          try clear hfz53_0
          try clear hfz53_1
          try clear hfz56_0
          try clear hfz56_1
          try clear hfz57_0
          try clear hfz57_1
          try clear hfz57_2
          try clear hfz60_0
          try clear hfz60_1
          try clear hfz61_0
          try clear hfz61_1
          try clear hfz61_2
          try clear hfz64_0
          try clear hfz64_1
          try clear hfz65_0
          try clear hfz65_1
          try clear hfz65_2
          try clear hfz67_0
          try clear hfz67_1
          try clear hfz68_0
          try clear hfz68_1
          try clear hfz68_2
          try clear p2
          try clear p6
          try clear p64
          obtain ⟨x10_2, rfl, HA, HK2, HO_5, BK307, BK315, HB⟩ := hrel
          cases gk with
          | zero => exact absurd HA.out (by simp [undercroftlaw08_BuddyFree.l0])
          | succ k2 =>
            have H := HA.out
            clear HA
            simp only [undercroftlaw08_BuddyFree.l0] at H
            by_cases c71 : x10_2 < (wrap64 (8 * (l0.length : Int)))
            rotate_left
            · rw [if_neg c71] at H
              have c71b0 : decide (x10_2 < (wrap64 (8 * (l0.length : Int)))) = false := decide_eq_false c71
              clear c71
              replace H := Option.bind_eq_some_iff.mp H
              obtain ⟨⟨t318, t321⟩, A900, H⟩ := H
              replace H : (if t321 = 0 then (some ((strOfNums t318).toList == (strOfNums l0).toList)) else (some false)) = some r := H
              have A90 := Aside0.mk A900
              clear A900
              by_cases c91 : t321 = 0
              rotate_left
              · rw [if_neg c91] at H
                have c91b0 : (t321 == 0) = false := beq_eq_false_iff_ne.mpr c91
                have c91b1 : (t321 != 0) = true := bne_iff_ne.mpr c91
                exact absurd (Option.some.inj H) (by rw [hT]; decide)
              rw [if_pos c91] at H
              have c91b0 : (t321 == 0) = true := beq_iff_eq.mpr c91
              have c91b1 : (t321 != 0) = false := bne_eq_false_iff_eq.mpr c91
              clear c91
              obtain rfl := Option.some.inj H
              have hnb92 := NB307_315.out
              have hnc92 := NB315_307.out
              have hcz93_0 : wr.cell? ⟨gb307, 0, none⟩ = some (.int .i64 a1_0) := (blk_cell BK307.out 0).trans rfl
              have hcz93_1 : wr.cell? ⟨gb307, 1, none⟩ = some (.int .i64 a1_1) := (blk_cell BK307.out 1).trans rfl
              have hcz93_2 : wr.cell? ⟨gb307, 2, none⟩ = some (.int .i64 a1_2) := (blk_cell BK307.out 2).trans rfl
              have hfz93_0 := blk_frozen BK307.out 0
              have hfz93_1 := blk_frozen BK307.out 1
              have hfz93_2 := blk_frozen BK307.out 2
              have hcz94_0 : wr.cell? ⟨gb315, 0, none⟩ = some (.int .i64 t312) := (blk_cell BK315.out 0).trans rfl
              have hcz94_1 : wr.cell? ⟨gb315, 1, none⟩ = some (.int .i64 t313) := (blk_cell BK315.out 1).trans rfl
              have hfz94_0 := blk_frozen BK315.out 0
              have hfz94_1 := blk_frozen BK315.out 1
              obtain ⟨Ao95, co95, eo95⟩ := Kd.R_slice HO_5.out
              subst eo95
              go_wp2_with (first | ((with_reducible refine gate_callee (f := 15) rfl ?_); refine goesL_ (some 152) rfl rfl Try.func15 (by kernel_rfl) rfl #[.slice Ao95 t309.length co95, .int .i64 a1_0, .agg #[.int .i64 t312, .int .i64 t313]] rfl (by (try simp only [List.map_toArray, List.map_cons, List.map_nil]); first | done | rfl | (simp only [List.length_drop, List.length_take]; rfl)) ?_; (with_reducible refine (buddy_Give.calls k2 _ _ t309 a1_0 t312 t313 t318 t321 _ ?side1 ?side2 A90.out).mono ?_); (case side1 => repeat (first | exact (Kd.R_reads' HO_5.out).2.2 | (with_reducible refine Kd.C_alloc ?_ _) | (with_reducible refine Kd.C_drewN ?_ _) | (with_reducible refine Kd.C_drew ?_))); (case side2 => exact (Kd.R_reads' HO_5.out).2.1); rintro e w96 ⟨v319, rfl, ho0, hb⟩; refine ⟨_, rfl, ?_⟩; have n0_ := Aside0.mk (Kd.R_elder' (by (with_reducible repeat (first | apply Kd.R_alloc | apply Kd.R_drewN | apply Kd.R_drew)); exact HO_5.out) (Kd.R_base ho0) hb); have n1_ := Aside0.mk (Kd.R_lower (Kd.R_new' ho0 (Kd.R_lt (by (with_reducible repeat (first | apply Kd.R_alloc | apply Kd.R_drewN | apply Kd.R_drew)); exact HO_5.out))) (below_size (by repeat (first | (with_reducible first | exact HB.out | apply below_alloc | apply pw_below_drewN | apply below_drew1 | refine below_set ?_ GE307.out | refine below_set ?_ GE315.out) | exact HB.out)))); have n2_ := Aside0.mk (blk_below (g := gb307) (o := .cells #[.int .i64 a1_0, .int .i64 a1_1, .int .i64 a1_2] 24 (0, 0)) (by (with_reducible repeat (first | refine blk_drewN ?_ _ | refine blk_drew ?_ | refine blk_alloc ?_ _)); exact BK307.out) hb); have n3_ := Aside0.mk (blk_below (g := gb315) (o := .cells #[.int .i64 t312, .int .i64 t313] 27 (0, 0)) (by (with_reducible repeat (first | refine blk_drewN ?_ _ | refine blk_drew ?_ | refine blk_alloc ?_ _)); exact BK315.out) hb); have n4_ := Aside0.mk (below_step (by repeat (first | (with_reducible first | exact HB.out | apply below_alloc | apply pw_below_drewN | apply below_drew1 | refine below_set ?_ GE307.out | refine below_set ?_ GE315.out) | exact HB.out)) hb); clear HO_5; clear BK307; clear BK315; clear HB; have HO_5 := n0_; have HO320 := n1_; have BK307 := n2_; have BK315 := n3_; have HB := n4_; clear n0_ n1_ n2_ n3_ n4_; (try clear hb); (try clear hb2); (try clear hk); (try clear hi); (try clear ho0); have hcv97 := own_string (P := Try.prog) Try.underlying22 Try.underlying5 Try.underlying9 (Kd.own_of_R HO320.out); have hcd98 := fun (nd_ : Nat) => own_string (P := Try.prog) Try.underlying22 Try.underlying5 Try.underlying9 (Kd.own_of_R (Kd.R_drewN HO320.out nd_)); have hcv99 := Kd.C_string (P := Try.prog) (A := A0) (c := c0) Try.underlying22 Try.underlying5 Try.underlying9 (Kd.C_below HR0.out HB.out); have hcd100 := fun (nd_ : Nat) => Kd.C_string (P := Try.prog) (A := A0) (c := c0) Try.underlying22 Try.underlying5 Try.underlying9 (Kd.C_drewN (Kd.C_below HR0.out HB.out) nd_)))
              go_ret
              exact ⟨by first | rfl | (simp [errW_none, errW_some] <;> rfl) | (simp [*, errW_none, errW_some] <;> rfl), by repeat (first | (with_reducible first | exact HB.out | apply below_alloc | apply pw_below_drewN | apply below_drew1 | refine below_set ?_ GE307.out | refine below_set ?_ GE315.out) | exact HB.out)⟩
            rw [if_pos c71] at H
            have c71b0 : decide (x10_2 < (wrap64 (8 * (l0.length : Int)))) = true := decide_eq_true c71
            clear c71
            have HC72 := Aside0.mk H
            clear H
            go_upto_region 14 with (fail)
            go_cut [11] (fun v11 wc => ∃ (kq : Nat) (x11_71 : Bool), v11 = .bool x11_71 ∧ Aside0 (undercroftlaw08_BuddyFree.j2 kq l0 t309 x10_2 x11_71 a1_0 a1_1 a1_2 t312 t313 = some r) ∧ Aside0 (kq ≤ k2) ∧ Aside0 (Kd.R (Kd.int .u8) 5 wc w.heap.size (fun _ => True) v310 t309) ∧ Aside0 (wc.heap[gb307]? = some (.cells #[.int .i64 a1_0, .int .i64 a1_1, .int .i64 a1_2] 24 (0, 0))) ∧ Aside0 (wc.heap[gb315]? = some (.cells #[.int .i64 t312, .int .i64 t313] 27 (0, 0))) ∧ Aside0 (Below w.heap.size w wc))
            case first =>
              have H := HC72.out
              clear HC72
              by_cases c73 : x10_2 ≥ t312
              rotate_left
              · rw [if_neg c73] at H
                have c73b0 : decide (t312 ≤ x10_2) = false := decide_eq_false c73
                clear c73
                (first | rw [c73b0] | (simp only [i64_w, i32_w]; rw [c73b0]) | skip)
                have H' := Aside0.mk H
                clear H
                have hnb76 := NB315_307.out
                have hnc76 := NB307_315.out
                have hcz77_0 : wr.cell? ⟨gb315, 0, none⟩ = some (.int .i64 t312) := (blk_cell BK315.out 0).trans rfl
                have hcz77_1 : wr.cell? ⟨gb315, 1, none⟩ = some (.int .i64 t313) := (blk_cell BK315.out 1).trans rfl
                have hfz77_0 := blk_frozen BK315.out 0
                have hfz77_1 := blk_frozen BK315.out 1
                go_wp2
                go_meet
                case rel => exact ⟨_, (false), (by first | rfl | (simp; done) | (simp [*]; done)), H', ⟨by have := HJ38.out; have := HK2.out; first | omega | exact Nat.le_refl _⟩, ⟨by (with_reducible repeat (first | apply Kd.R_alloc | apply Kd.R_drewN | apply Kd.R_drew)); exact HO_5.out⟩, ⟨by (with_reducible repeat (first | refine blk_drewN ?_ _ | refine blk_drew ?_ | refine blk_alloc ?_ _)); exact BK307.out⟩, ⟨by (with_reducible repeat (first | refine blk_drewN ?_ _ | refine blk_drew ?_ | refine blk_alloc ?_ _)); exact BK315.out⟩, ⟨by repeat (first | (with_reducible first | exact HB.out | apply below_alloc | apply pw_below_drewN | apply below_drew1 | refine below_set ?_ GE307.out | refine below_set ?_ GE315.out) | exact HB.out)⟩⟩
              rw [if_pos c73] at H
              have c73b0 : decide (t312 ≤ x10_2) = true := decide_eq_true c73
              clear c73
              (first | rw [c73b0] | (simp only [i64_w, i32_w]; rw [c73b0]) | skip)
              have H' := Aside0.mk H
              clear H
              have hnb74 := NB315_307.out
              have hnc74 := NB307_315.out
              have hcz75_0 : wr.cell? ⟨gb315, 0, none⟩ = some (.int .i64 t312) := (blk_cell BK315.out 0).trans rfl
              have hcz75_1 : wr.cell? ⟨gb315, 1, none⟩ = some (.int .i64 t313) := (blk_cell BK315.out 1).trans rfl
              have hfz75_0 := blk_frozen BK315.out 0
              have hfz75_1 := blk_frozen BK315.out 1
              go_wp2
              go_meet
              case rel => exact ⟨_, (decide (x10_2 < (wrap64 (t312 + t313)))), (by first | rfl | (simp; done) | (simp [*]; done)), H', ⟨by have := HJ38.out; have := HK2.out; first | omega | exact Nat.le_refl _⟩, ⟨by (with_reducible repeat (first | apply Kd.R_alloc | apply Kd.R_drewN | apply Kd.R_drew)); exact HO_5.out⟩, ⟨by (with_reducible repeat (first | refine blk_drewN ?_ _ | refine blk_drew ?_ | refine blk_alloc ?_ _)); exact BK307.out⟩, ⟨by (with_reducible repeat (first | refine blk_drewN ?_ _ | refine blk_drew ?_ | refine blk_alloc ?_ _)); exact BK315.out⟩, ⟨by repeat (first | (with_reducible first | exact HB.out | apply below_alloc | apply pw_below_drewN | apply below_drew1 | refine below_set ?_ GE307.out | refine below_set ?_ GE315.out) | exact HB.out)⟩⟩
            case rest =>
              clear HC72
              try clear c1
              try clear c2
              try clear p2
              try clear c3
              try clear c4
              try clear c5
              try clear c6
              try clear p6
              try clear c7
              try clear c7b0
              try clear c7b1
              try clear c8
              try clear c8b0
              try clear c8b1
              try clear c9
              try clear c9b0
              try clear c9b1
              try clear c10
              try clear c11
              try clear c14
              try clear c15
              try clear c25
              try clear c34
              try clear c38
              try clear c38b0
              try clear c38b1
              try clear c45
              try clear c49
              try clear c49b0
              try clear c49b1
              try clear c50
              try clear c50b0
              try clear c50b1
              try clear c51
              try clear c51b0
              try clear c52
              try clear c54
              try clear c54b0
              try clear c55
              try clear c58
              try clear c58b0
              try clear c59
              try clear c62
              try clear c62b0
              try clear c63
              try clear p64
              try clear c66
              try clear c70
              try clear c71
              try clear c71b0
              try clear c73
              try clear c73b0
              try clear c74
              try clear c76
              try clear hcz12_0
              try clear hcz12_1
              try clear hcz12_2
              try clear hcz16_0
              try clear hcz16_1
              try clear hcz17_0
              try clear hcz17_1
              try clear hcz17_2
              try clear hcz22_0
              try clear hcz22_1
              try clear hcz22_2
              try clear hcz26_0
              try clear hcz26_1
              try clear hcz27_0
              try clear hcz27_1
              try clear hcz27_2
              try clear hcz31_0
              try clear hcz31_1
              try clear hcz31_2
              try clear hcz35_0
              try clear hcz35_1
              try clear hcz36_0
              try clear hcz36_1
              try clear hcz36_2
              try clear hcz42_0
              try clear hcz42_1
              try clear hcz42_2
              try clear hcz46_0
              try clear hcz46_1
              try clear hcz47_0
              try clear hcz47_1
              try clear hcz47_2
              try clear hcz53_0
              try clear hcz53_1
              try clear hcz56_0
              try clear hcz56_1
              try clear hcz57_0
              try clear hcz57_1
              try clear hcz57_2
              try clear hcz60_0
              try clear hcz60_1
              try clear hcz61_0
              try clear hcz61_1
              try clear hcz61_2
              try clear hcz64_0
              try clear hcz64_1
              try clear hcz65_0
              try clear hcz65_1
              try clear hcz65_2
              try clear hcz67_0
              try clear hcz67_1
              try clear hcz68_0
              try clear hcz68_1
              try clear hcz68_2
              try clear hcz75_0
              try clear hcz75_1
              try clear hcz77_0
              try clear hcz77_1
              try clear hfz12_0
              try clear hfz12_1
              try clear hfz12_2
              try clear hfz16_0
              try clear hfz16_1
              try clear hfz17_0
              try clear hfz17_1
              try clear hfz17_2
              try clear hfz22_0
              try clear hfz22_1
              try clear hfz22_2
              try clear hfz26_0
              try clear hfz26_1
              try clear hfz27_0
              try clear hfz27_1
              try clear hfz27_2
              try clear hfz31_0
              try clear hfz31_1
              try clear hfz31_2
              try clear hfz35_0
              try clear hfz35_1
              try clear hfz36_0
              try clear hfz36_1
              try clear hfz36_2
              try clear hfz42_0
              try clear hfz42_1
              try clear hfz42_2
              try clear hfz46_0
              try clear hfz46_1
              try clear hfz47_0
              try clear hfz47_1
              try clear hfz47_2
              try clear hfz53_0
              try clear hfz53_1
              try clear hfz56_0
              try clear hfz56_1
              try clear hfz57_0
              try clear hfz57_1
              try clear hfz57_2
              try clear hfz60_0
              try clear hfz60_1
              try clear hfz61_0
              try clear hfz61_1
              try clear hfz61_2
              try clear hfz64_0
              try clear hfz64_1
              try clear hfz65_0
              try clear hfz65_1
              try clear hfz65_2
              try clear hfz67_0
              try clear hfz67_1
              try clear hfz68_0
              try clear hfz68_1
              try clear hfz68_2
              try clear hfz75_0
              try clear hfz75_1
              try clear hfz77_0
              try clear hfz77_1
              try clear p2
              try clear p6
              try clear p64
              obtain ⟨kq, x11_71, rfl, HA, HJ71, HO_5, BK307, BK315, HB⟩ := hcut
              cases kq with
              | zero => exact absurd HA.out (by simp [undercroftlaw08_BuddyFree.j2])
              | succ kj71 =>
                have H := HA.out
                clear HA
                simp only [undercroftlaw08_BuddyFree.j2] at H
                by_cases c78 : x11_71 = true
                rotate_left
                · replace c78 := Bool.eq_false_iff.mpr c78
                  subst c78
                  have H1 : ((bits_Get.f l0 x10_2).bind fun t324 => ((bits_Get.f t309 x10_2).bind fun t325 => (if (t324 != t325) = true then (some false) else (undercroftlaw08_BuddyFree.l0 kj71 l0 t309 (wrap64 (x10_2 + 1)) a1_0 a1_1 a1_2 t312 t313)))) = some r := by rw [if_neg (show ¬ (false = true) by decide)] at H; exact H
                  clear H
                  have H := H1
                  clear H1
                  replace H := Option.bind_eq_some_iff.mp H
                  obtain ⟨t324, A850, H⟩ := H
                  replace H : ((bits_Get.f t309 x10_2).bind fun t325 => (if (t324 != t325) = true then (some false) else (undercroftlaw08_BuddyFree.l0 kj71 l0 t309 (wrap64 (x10_2 + 1)) a1_0 a1_1 a1_2 t312 t313))) = some r := H
                  have A85 := Aside0.mk A850
                  clear A850
                  replace H := Option.bind_eq_some_iff.mp H
                  obtain ⟨t325, A860, H⟩ := H
                  replace H : (if (t324 != t325) = true then (some false) else (undercroftlaw08_BuddyFree.l0 kj71 l0 t309 (wrap64 (x10_2 + 1)) a1_0 a1_1 a1_2 t312 t313)) = some r := H
                  have A86 := Aside0.mk A860
                  clear A860
                  by_cases c87 : (t324 != t325) = true
                  · rw [if_pos c87] at H
                    have c87b0 : (t324 != t325) = true := c87
                    (try (have c87b1 : decide (t324 = t325) = false := by simpa using c87))
                    (try (have c87b2 : (t324 == t325) = false := by simpa using c87))
                    (try (have c87b3 : ¬ (t324 = t325) := by simpa using c87))
                    clear c87
                    exact absurd (Option.some.inj H) (by rw [hT]; decide)
                  rw [if_neg c87] at H
                  have c87b0 : (t324 != t325) = false := by simpa using c87
                  (try (have c87b1 : decide (t324 = t325) = true := by simpa using c87))
                  (try (have c87b2 : (t324 == t325) = true := by simpa using c87))
                  clear c87
                  have H' := Aside0.mk H
                  clear H
                  go_wp2_with (first | (go_at_call 20; (with_reducible refine (bits_Get.calls _ _ l0 x10_2 t324 _ ?side1 ?side2 A85.out).mono ?_); (case side1 => repeat (first | exact (Kd.C_below HR0.out HB.out) | (with_reducible refine Kd.C_alloc ?_ _) | (with_reducible refine Kd.C_drewN ?_ _) | (with_reducible refine Kd.C_drew ?_))); (case side2 => exact HC0.out); rintro e w' ⟨rfl, ⟨nd, rfl⟩⟩; obtain ⟨Ao89, co89, eo89⟩ := Kd.R_slice HO_5.out; subst eo89) | (go_at_call 20; (with_reducible refine (bits_Get.calls _ _ t309 x10_2 t325 _ ?side1 ?side2 A86.out).mono ?_); (case side1 => repeat (first | exact (Kd.R_reads' HO_5.out).2.2 | (with_reducible refine Kd.C_alloc ?_ _) | (with_reducible refine Kd.C_drewN ?_ _) | (with_reducible refine Kd.C_drew ?_))); (case side2 => exact (Kd.R_reads' HO_5.out).2.1); rintro e w' ⟨rfl, ⟨nd, rfl⟩⟩))
                  go_roundg kj71
                  case measure => have := HJ38.out; have := HK2.out; have := HJ71.out; omega
                  case rel => exact ⟨(wrap64 (x10_2 + 1)), (by first | rfl | (simp; done) | (simp [*]; done)), H', ⟨by have := HJ38.out; have := HK2.out; have := HJ71.out; omega⟩, ⟨by (with_reducible repeat (first | apply Kd.R_alloc | apply Kd.R_drewN | apply Kd.R_drew)); exact HO_5.out⟩, ⟨by (with_reducible repeat (first | refine blk_drewN ?_ _ | refine blk_drew ?_ | refine blk_alloc ?_ _)); exact BK307.out⟩, ⟨by (with_reducible repeat (first | refine blk_drewN ?_ _ | refine blk_drew ?_ | refine blk_alloc ?_ _)); exact BK315.out⟩, ⟨by repeat (first | (with_reducible first | exact HB.out | apply below_alloc | apply pw_below_drewN | apply below_drew1 | refine below_set ?_ GE307.out | refine below_set ?_ GE315.out) | exact HB.out)⟩⟩
                subst c78
                have H1 : ((bits_Get.f l0 x10_2).bind fun t322 => (if t322 = true then (some false) else ((bits_Get.f t309 x10_2).bind fun t323 => (if t323 = true then (undercroftlaw08_BuddyFree.l0 kj71 l0 t309 (wrap64 (x10_2 + 1)) a1_0 a1_1 a1_2 t312 t313) else (some false))))) = some r := by rw [if_pos rfl] at H; exact H
                clear H
                have H := H1
                clear H1
                replace H := Option.bind_eq_some_iff.mp H
                obtain ⟨t322, A790, H⟩ := H
                replace H : (if t322 = true then (some false) else ((bits_Get.f t309 x10_2).bind fun t323 => (if t323 = true then (undercroftlaw08_BuddyFree.l0 kj71 l0 t309 (wrap64 (x10_2 + 1)) a1_0 a1_1 a1_2 t312 t313) else (some false)))) = some r := H
                have A79 := Aside0.mk A790
                clear A790
                by_cases c80 : t322 = true
                · subst c80
                  have H1 : (some false) = some r := by rw [if_pos rfl] at H; exact H
                  clear H
                  have H := H1
                  clear H1
                  exact absurd (Option.some.inj H) (by rw [hT]; decide)
                replace c80 := Bool.eq_false_iff.mpr c80
                subst c80
                have H1 : ((bits_Get.f t309 x10_2).bind fun t323 => (if t323 = true then (undercroftlaw08_BuddyFree.l0 kj71 l0 t309 (wrap64 (x10_2 + 1)) a1_0 a1_1 a1_2 t312 t313) else (some false))) = some r := by rw [if_neg (show ¬ (false = true) by decide)] at H; exact H
                clear H
                have H := H1
                clear H1
                replace H := Option.bind_eq_some_iff.mp H
                obtain ⟨t323, A810, H⟩ := H
                replace H : (if t323 = true then (undercroftlaw08_BuddyFree.l0 kj71 l0 t309 (wrap64 (x10_2 + 1)) a1_0 a1_1 a1_2 t312 t313) else (some false)) = some r := H
                have A81 := Aside0.mk A810
                clear A810
                by_cases c82 : t323 = true
                rotate_left
                · replace c82 := Bool.eq_false_iff.mpr c82
                  subst c82
                  have H1 : (some false) = some r := by rw [if_neg (show ¬ (false = true) by decide)] at H; exact H
                  clear H
                  have H := H1
                  clear H1
                  exact absurd (Option.some.inj H) (by rw [hT]; decide)
                subst c82
                have H1 : (undercroftlaw08_BuddyFree.l0 kj71 l0 t309 (wrap64 (x10_2 + 1)) a1_0 a1_1 a1_2 t312 t313) = some r := by rw [if_pos rfl] at H; exact H
                clear H
                have H := H1
                clear H1
                have H' := Aside0.mk H
                clear H
                go_wp2_with (first | (go_at_call 20; (with_reducible refine (bits_Get.calls _ _ l0 x10_2 false _ ?side1 ?side2 A79.out).mono ?_); (case side1 => repeat (first | exact (Kd.C_below HR0.out HB.out) | (with_reducible refine Kd.C_alloc ?_ _) | (with_reducible refine Kd.C_drewN ?_ _) | (with_reducible refine Kd.C_drew ?_))); (case side2 => exact HC0.out); rintro e w' ⟨rfl, ⟨nd, rfl⟩⟩; obtain ⟨Ao83, co83, eo83⟩ := Kd.R_slice HO_5.out; subst eo83) | (go_at_call 20; (with_reducible refine (bits_Get.calls _ _ t309 x10_2 true _ ?side1 ?side2 A81.out).mono ?_); (case side1 => repeat (first | exact (Kd.R_reads' HO_5.out).2.2 | (with_reducible refine Kd.C_alloc ?_ _) | (with_reducible refine Kd.C_drewN ?_ _) | (with_reducible refine Kd.C_drew ?_))); (case side2 => exact (Kd.R_reads' HO_5.out).2.1); rintro e w' ⟨rfl, ⟨nd, rfl⟩⟩))
                go_roundg kj71
                case measure => have := HJ38.out; have := HK2.out; have := HJ71.out; omega
                case rel => exact ⟨(wrap64 (x10_2 + 1)), (by first | rfl | (simp; done) | (simp [*]; done)), H', ⟨by have := HJ38.out; have := HK2.out; have := HJ71.out; omega⟩, ⟨by (with_reducible repeat (first | apply Kd.R_alloc | apply Kd.R_drewN | apply Kd.R_drew)); exact HO_5.out⟩, ⟨by (with_reducible repeat (first | refine blk_drewN ?_ _ | refine blk_drew ?_ | refine blk_alloc ?_ _)); exact BK307.out⟩, ⟨by (with_reducible repeat (first | refine blk_drewN ?_ _ | refine blk_drew ?_ | refine blk_alloc ?_ _)); exact BK315.out⟩, ⟨by repeat (first | (with_reducible first | exact HB.out | apply below_alloc | apply pw_below_drewN | apply below_drew1 | refine below_set ?_ GE307.out | refine below_set ?_ GE315.out) | exact HB.out)⟩⟩
  · replace c4 := Bool.eq_false_iff.mpr c4
    subst c4
    have H1 : (some false) = some r := by rw [if_neg (show ¬ (false = true) by decide)] at H; exact H
    clear H
    have H := H1
    clear H1
    exact absurd (Option.some.inj H) (by rw [hT]; decide)

end Go.Proofs.Ytlhpejdbmbpmhaa.U
