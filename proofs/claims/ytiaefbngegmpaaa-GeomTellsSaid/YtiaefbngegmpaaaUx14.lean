/- Written by uprint.py (ours) for this seat: functions of the translation as Lean functions, and what their calls do. Not trusted: Lean checks it. -/
import Derived.Test.YtiaefbngegmpaaaUx0
import Derived.Test.YtiaefbngegmpaaaUx1
import Derived.Test.YtiaefbngegmpaaaUx2
import Derived.Test.YtiaefbngegmpaaaUx5
import Derived.Test.YtiaefbngegmpaaaUx6
import Derived.Test.YtiaefbngegmpaaaUx7
import Derived.Test.YtiaefbngegmpaaaUx9
import Derived.Test.YtiaefbngegmpaaaUx11
import Derived.Test.YtiaefbngegmpaaaUx12
import Derived.Test.YtiaefbngegmpaaaUx13
namespace Go.Proofs.Ytiaefbngegmpaaa.U
open Go.RowKit Go.Proofs.YtiaefbngegmpaaaW.PrintWords Go.Proofs.YtiaefbngegmpaaaW.PrintLast Go.Proofs.YtiaefbngegmpaaaW.PrintMore
attribute [local go_sem] max2_int min2_int max_two min_two max_three min_three max_four min_four   -- for this text's walks alone
set_option linter.unusedVariables false
set_option linter.unusedSimpArgs false

attribute [local go_sem high] eqA24
/-! ### undercroftlaw06_GeomTells: function 4 -/
def undercroftlaw06_GeomTells.j2 : Nat → Int → Int → Int → Int → Int → Int → Int → Int → Int → Option (Bool)
  | 0, _, _, _, _, _, _, _, _, _ => none
  | k + 1, x2, x211000, x211001, x211002, x211003, x211004, x211005, x211006, x211007 => (geom_Encode.f x211000 x211001 x211002 x211003 x211004 x211005 x211006 x211007).bind fun bt232 => ((undercroftref06_Encode.f k x211000 x211001 x211002 x211003 x211004 x211005 x211006 x211007).bind fun bt236 => ((geom_Inode.f x211000 x211001 x211002 x211003 x211004 x211005 x211006 x211007 x2).bind fun bt240 => ((undercroftref06_Inode.f x211000 x211001 x211002 x211003 x211004 x211005 x211006 x211007 x2).bind fun bt243 => (if (strOfNums bt232.1).toList = (strOfNums bt236.1).toList then (if bt232.2 = bt236.2 then (if bt240.1 = bt243.1 then (if bt240.2.1 = bt243.2.1 then (if bt240.2.2 = bt243.2.2 then ((geom_Where.f x211000 x211001 x211002 x211003 x211004 x211005 x211006 x211007 x2).bind fun t246 => ((undercroftref06_Where.f k x211000 x211001 x211002 x211003 x211004 x211005 x211006 x211007 x2).bind fun t247 => (some (t246 == t247)))) else (some false)) else (some false)) else (some false)) else (some false)) else (some false)))))
def undercroftlaw06_GeomTells.j1 : Nat → Int → Bool → Int → Int → Int → Int → Int → Int → Int → Int → Int → Int → Int → Int → Int → Int → Int → Int → Option (Bool)
  | 0, _, _, _, _, _, _, _, _, _, _, _, _, _, _, _, _, _, _ => none
  | k + 1, x2, x47, x211000, x211001, x211002, x211003, x211004, x211005, x211006, x211007, x222000, x222001, x222002, x222003, x222004, x222005, x222006, x222007 => if x47 = true then (undercroftlaw06_GeomTells.j2 k x2 x222000 x222001 x222002 x222003 x222004 x222005 x222006 x222007) else (undercroftlaw06_GeomTells.j2 k x2 x211000 x211001 x211002 x211003 x211004 x211005 x211006 x211007)
def undercroftlaw06_GeomTells.j0 : Nat → Int → Int → Bool → Int → Int → Int → Int → Int → Int → Int → Int → Int → Int → Int → Int → Int → Int → Int → Int → Option (Bool)
  | 0, _, _, _, _, _, _, _, _, _, _, _, _, _, _, _, _, _, _, _ => none
  | k + 1, x2, x8, x40, x211000, x211001, x211002, x211003, x211004, x211005, x211006, x211007, x222000, x222001, x222002, x222003, x222004, x222005, x222006, x222007 => if x40 = true then (some false) else (if x8 = 0 then (undercroftlaw06_GeomTells.j1 k x2 (decide (x211000 < 0)) x211000 x211001 x211002 x211003 x211004 x211005 x211006 x211007 x222000 x222001 x222002 x222003 x222004 x222005 x222006 x222007) else (undercroftlaw06_GeomTells.j1 k x2 false x211000 x211001 x211002 x211003 x211004 x211005 x211006 x211007 x222000 x222001 x222002 x222003 x222004 x222005 x222006 x222007))
def undercroftlaw06_GeomTells.f (k : Nat) (a0 : Int) (a1_0 : Int) (a1_1 : Int) (a1_2 : Int) (a1_3 : Int) (a1_4 : Int) (a1_5 : Int) (a1_6 : Int) (a1_7 : Int) (a2 : Int) : Option (Bool) := (undercroftlaw06_alive.f).bind fun t211 => (if t211 = true then ((geom_Layout.f a0).bind fun bt212 => ((undercroftref06_Layout.f a0).bind fun bt222 => (if (!(bt212.1 == bt222.1) || (!(bt212.2.1 == bt222.2.1) || (!(bt212.2.2.1 == bt222.2.2.1) || (!(bt212.2.2.2.1 == bt222.2.2.2.1) || (!(bt212.2.2.2.2.1 == bt222.2.2.2.2.1) || (!(bt212.2.2.2.2.2.1 == bt222.2.2.2.2.2.1) || (!(bt212.2.2.2.2.2.2.1 == bt222.2.2.2.2.2.2.1) || (!(bt212.2.2.2.2.2.2.2.1 == bt222.2.2.2.2.2.2.2.1))))))))) = true then (undercroftlaw06_GeomTells.j0 k a2 bt212.2.2.2.2.2.2.2.2 true a1_0 a1_1 a1_2 a1_3 a1_4 a1_5 a1_6 a1_7 bt212.1 bt212.2.1 bt212.2.2.1 bt212.2.2.2.1 bt212.2.2.2.2.1 bt212.2.2.2.2.2.1 bt212.2.2.2.2.2.2.1 bt212.2.2.2.2.2.2.2.1) else (undercroftlaw06_GeomTells.j0 k a2 bt212.2.2.2.2.2.2.2.2 (bt212.2.2.2.2.2.2.2.2 != bt222.2.2.2.2.2.2.2.2) a1_0 a1_1 a1_2 a1_3 a1_4 a1_5 a1_6 a1_7 bt212.1 bt212.2.1 bt212.2.2.1 bt212.2.2.2.1 bt212.2.2.2.2.1 bt212.2.2.2.2.2.1 bt212.2.2.2.2.2.2.1 bt212.2.2.2.2.2.2.2.1)))) else (some false))
theorem undercroftlaw06_GeomTells.mono_l : ∀ k, (∀ y0 y1 y2 y3 y4 y5 y6 y7 y8 y9 y10 y11 y12 y13 y14 y15 y16 y17 y18, LeO (undercroftlaw06_GeomTells.j0 k y0 y1 y2 y3 y4 y5 y6 y7 y8 y9 y10 y11 y12 y13 y14 y15 y16 y17 y18) (undercroftlaw06_GeomTells.j0 (k + 1) y0 y1 y2 y3 y4 y5 y6 y7 y8 y9 y10 y11 y12 y13 y14 y15 y16 y17 y18)) ∧ (∀ y0 y1 y2 y3 y4 y5 y6 y7 y8 y9 y10 y11 y12 y13 y14 y15 y16 y17, LeO (undercroftlaw06_GeomTells.j1 k y0 y1 y2 y3 y4 y5 y6 y7 y8 y9 y10 y11 y12 y13 y14 y15 y16 y17) (undercroftlaw06_GeomTells.j1 (k + 1) y0 y1 y2 y3 y4 y5 y6 y7 y8 y9 y10 y11 y12 y13 y14 y15 y16 y17)) ∧ (∀ y0 y1 y2 y3 y4 y5 y6 y7 y8, LeO (undercroftlaw06_GeomTells.j2 k y0 y1 y2 y3 y4 y5 y6 y7 y8) (undercroftlaw06_GeomTells.j2 (k + 1) y0 y1 y2 y3 y4 y5 y6 y7 y8))
  | 0 => ⟨fun _ _ _ _ _ _ _ _ _ _ _ _ _ _ _ _ _ _ _ r h => by simp [undercroftlaw06_GeomTells.j0] at h, fun _ _ _ _ _ _ _ _ _ _ _ _ _ _ _ _ _ _ r h => by simp [undercroftlaw06_GeomTells.j1] at h, fun _ _ _ _ _ _ _ _ _ r h => by simp [undercroftlaw06_GeomTells.j2] at h⟩
  | k + 1 => by
    obtain ⟨ih0, ih1, ih2⟩ := undercroftlaw06_GeomTells.mono_l k
    refine ⟨?_, ?_, ?_⟩
    · intro y0 y1 y2 y3 y4 y5 y6 y7 y8 y9 y10 y11 y12 y13 y14 y15 y16 y17 y18
      unfold undercroftlaw06_GeomTells.j0
      repeat' first
      | (with_reducible exact ih0 _ _ _ _ _ _ _ _ _ _ _ _ _ _ _ _ _ _ _)
      | (with_reducible exact ih1 _ _ _ _ _ _ _ _ _ _ _ _ _ _ _ _ _ _)
      | (with_reducible exact ih2 _ _ _ _ _ _ _ _ _)
      | (with_reducible exact undercroftref06_Encode.mono _ _ _ _ _ _ _ _ _)
      | (with_reducible exact undercroftref06_Where.mono _ _ _ _ _ _ _ _ _ _)
      | (with_reducible exact LeO.refl _)
      | (with_reducible exact LeO.none _)
      | (with_reducible refine LeO.ite ?_ ?_)
      | (with_reducible refine LeO.bind ?_ (fun _ => ?_))
      | exact ih0 _ _ _ _ _ _ _ _ _ _ _ _ _ _ _ _ _ _ _
      | exact ih1 _ _ _ _ _ _ _ _ _ _ _ _ _ _ _ _ _ _
      | exact ih2 _ _ _ _ _ _ _ _ _
      | exact undercroftref06_Encode.mono _ _ _ _ _ _ _ _ _
      | exact undercroftref06_Where.mono _ _ _ _ _ _ _ _ _ _
      | exact LeO.none _
      | refine LeO.ite ?_ ?_
      | refine LeO.bind ?_ (fun _ => ?_)
    · intro y0 y1 y2 y3 y4 y5 y6 y7 y8 y9 y10 y11 y12 y13 y14 y15 y16 y17
      unfold undercroftlaw06_GeomTells.j1
      repeat' first
      | (with_reducible exact ih0 _ _ _ _ _ _ _ _ _ _ _ _ _ _ _ _ _ _ _)
      | (with_reducible exact ih1 _ _ _ _ _ _ _ _ _ _ _ _ _ _ _ _ _ _)
      | (with_reducible exact ih2 _ _ _ _ _ _ _ _ _)
      | (with_reducible exact undercroftref06_Encode.mono _ _ _ _ _ _ _ _ _)
      | (with_reducible exact undercroftref06_Where.mono _ _ _ _ _ _ _ _ _ _)
      | (with_reducible exact LeO.refl _)
      | (with_reducible exact LeO.none _)
      | (with_reducible refine LeO.ite ?_ ?_)
      | (with_reducible refine LeO.bind ?_ (fun _ => ?_))
      | exact ih0 _ _ _ _ _ _ _ _ _ _ _ _ _ _ _ _ _ _ _
      | exact ih1 _ _ _ _ _ _ _ _ _ _ _ _ _ _ _ _ _ _
      | exact ih2 _ _ _ _ _ _ _ _ _
      | exact undercroftref06_Encode.mono _ _ _ _ _ _ _ _ _
      | exact undercroftref06_Where.mono _ _ _ _ _ _ _ _ _ _
      | exact LeO.none _
      | refine LeO.ite ?_ ?_
      | refine LeO.bind ?_ (fun _ => ?_)
    · intro y0 y1 y2 y3 y4 y5 y6 y7 y8
      unfold undercroftlaw06_GeomTells.j2
      repeat' first
      | (with_reducible exact ih0 _ _ _ _ _ _ _ _ _ _ _ _ _ _ _ _ _ _ _)
      | (with_reducible exact ih1 _ _ _ _ _ _ _ _ _ _ _ _ _ _ _ _ _ _)
      | (with_reducible exact ih2 _ _ _ _ _ _ _ _ _)
      | (with_reducible exact undercroftref06_Encode.mono _ _ _ _ _ _ _ _ _)
      | (with_reducible exact undercroftref06_Where.mono _ _ _ _ _ _ _ _ _ _)
      | (with_reducible exact LeO.refl _)
      | (with_reducible exact LeO.none _)
      | (with_reducible refine LeO.ite ?_ ?_)
      | (with_reducible refine LeO.bind ?_ (fun _ => ?_))
      | exact ih0 _ _ _ _ _ _ _ _ _ _ _ _ _ _ _ _ _ _ _
      | exact ih1 _ _ _ _ _ _ _ _ _ _ _ _ _ _ _ _ _ _
      | exact ih2 _ _ _ _ _ _ _ _ _
      | exact undercroftref06_Encode.mono _ _ _ _ _ _ _ _ _
      | exact undercroftref06_Where.mono _ _ _ _ _ _ _ _ _ _
      | exact LeO.none _
      | refine LeO.ite ?_ ?_
      | refine LeO.bind ?_ (fun _ => ?_)
theorem undercroftlaw06_GeomTells.mono : ∀ a0 a1 a2 a3 a4 a5 a6 a7 a8 a9 k, LeO (undercroftlaw06_GeomTells.f k a0 a1 a2 a3 a4 a5 a6 a7 a8 a9) (undercroftlaw06_GeomTells.f (k + 1) a0 a1 a2 a3 a4 a5 a6 a7 a8 a9) := by
  intro a0 a1 a2 a3 a4 a5 a6 a7 a8 a9 k
  obtain ⟨ih0, ih1, ih2⟩ := undercroftlaw06_GeomTells.mono_l k
  unfold undercroftlaw06_GeomTells.f
  repeat' first
      | (with_reducible exact ih0 _ _ _ _ _ _ _ _ _ _ _ _ _ _ _ _ _ _ _)
      | (with_reducible exact ih1 _ _ _ _ _ _ _ _ _ _ _ _ _ _ _ _ _ _)
      | (with_reducible exact ih2 _ _ _ _ _ _ _ _ _)
      | (with_reducible exact undercroftref06_Encode.mono _ _ _ _ _ _ _ _ _)
      | (with_reducible exact undercroftref06_Where.mono _ _ _ _ _ _ _ _ _ _)
      | (with_reducible exact LeO.refl _)
      | (with_reducible exact LeO.none _)
      | (with_reducible refine LeO.ite ?_ ?_)
      | (with_reducible refine LeO.bind ?_ (fun _ => ?_))
      | exact ih0 _ _ _ _ _ _ _ _ _ _ _ _ _ _ _ _ _ _ _
      | exact ih1 _ _ _ _ _ _ _ _ _ _ _ _ _ _ _ _ _ _
      | exact ih2 _ _ _ _ _ _ _ _ _
      | exact undercroftref06_Encode.mono _ _ _ _ _ _ _ _ _
      | exact undercroftref06_Where.mono _ _ _ _ _ _ _ _ _ _
      | exact LeO.none _
      | refine LeO.ite ?_ ?_
      | refine LeO.bind ?_ (fun _ => ?_)
def undercroftlaw06_GeomTells.T13 : Bool × List (List Nat × List Nat) := (true, [([], []), ([0], [0]), ([], []), ([2], [2]), ([1, 3], [1, 3]), ([4], [4]), ([5], [5]), ([5], [5]), ([6, 7, 5], [5, 6, 7]), ([5, 8], [5, 8]), ([9, 5], [9]), ([10], [10]), ([10], [10]), ([11, 12, 10], [10, 11, 12]), ([10, 13], [10, 13]), ([14, 10], [14]), ([15], [15]), ([15], [15]), ([16, 17, 15], [15, 16, 17]), ([15, 18], [15, 18]), ([19, 15], [19]), ([20], [20]), ([20], [20]), ([21, 22, 20], [20, 21, 22]), ([20, 23], [20, 23]), ([24, 20], [24]), ([25], [25]), ([25], [25]), ([26, 27, 25, 25], [25, 26, 27]), ([25], [25]), ([25], [25]), ([29, 30, 28, 25], [25, 29, 30]), ([28, 31, 25], [25, 28, 31]), ([25, 32], [25, 32]), ([33, 31, 0, 1, 2, 3, 4, 5, 6, 7, 8, 9, 10, 11, 12, 13, 14, 15, 16, 17, 18, 19, 20, 21, 22, 23, 24, 25, 26, 27, 28, 29, 30, 31, 32, 33], [33])])
def undercroftlaw06_GeomTells.B13 : List Nat := [0, 1, 0, 4, 15, 31, 63, 63, 255, 511, 1023, 2047, 2047, 8191, 16383, 32767, 65535, 65535, 262143, 524287, 1048575, 2097151, 2097151, 8388607, 16777215, 33554431, 67108863, 67108863, 268435455, 67108863, 67108863, 2147483647, 4294967295, 8589934591, 17179869183]
theorem undercroftlaw06_GeomTells.tab13 : rtab .any (opsOf Try.f4 13) = undercroftlaw06_GeomTells.T13 := by kernel_rfl
theorem undercroftlaw06_GeomTells.bits13 : waitsOk undercroftlaw06_GeomTells.T13.2 undercroftlaw06_GeomTells.B13 = true := by kernel_rfl
set_option maxHeartbeats 8000000 in
set_option maxRecDepth 100000 in
theorem undercroftlaw06_GeomTells.calls (k : Nat) (a0 : Int) (a1_0 : Int) (a1_1 : Int) (a1_2 : Int) (a1_3 : Int) (a1_4 : Int) (a1_5 : Int) (a1_6 : Int) (a1_7 : Int) (a2 : Int) (r : Bool) (w : World) (h : undercroftlaw06_GeomTells.f k a0 a1_0 a1_1 a1_2 a1_3 a1_4 a1_5 a1_6 a1_7 a2 = some r) (hT : r = true) :
    Calls Try.prog 4 #[.int .i64 a0, .agg #[.int .i64 a1_0, .int .i64 a1_1, .int .i64 a1_2, .int .i64 a1_3, .int .i64 a1_4, .int .i64 a1_5, .int .i64 a1_6, .int .i64 a1_7], .int .i64 a2] w fun e w' => e = .returned (.bool r) ∧ Below w.heap.size w w' := by
  have hu24 := Try.underlying24
  have HB := Aside0.mk (Below.refl w.heap.size w)
  have H : ((undercroftlaw06_alive.f).bind fun t211 => (if t211 = true then ((geom_Layout.f a0).bind fun bt212 => ((undercroftref06_Layout.f a0).bind fun bt222 => (if (!(bt212.1 == bt222.1) || (!(bt212.2.1 == bt222.2.1) || (!(bt212.2.2.1 == bt222.2.2.1) || (!(bt212.2.2.2.1 == bt222.2.2.2.1) || (!(bt212.2.2.2.2.1 == bt222.2.2.2.2.1) || (!(bt212.2.2.2.2.2.1 == bt222.2.2.2.2.2.1) || (!(bt212.2.2.2.2.2.2.1 == bt222.2.2.2.2.2.2.1) || (!(bt212.2.2.2.2.2.2.2.1 == bt222.2.2.2.2.2.2.2.1))))))))) = true then (undercroftlaw06_GeomTells.j0 k a2 bt212.2.2.2.2.2.2.2.2 true a1_0 a1_1 a1_2 a1_3 a1_4 a1_5 a1_6 a1_7 bt212.1 bt212.2.1 bt212.2.2.1 bt212.2.2.2.1 bt212.2.2.2.2.1 bt212.2.2.2.2.2.1 bt212.2.2.2.2.2.2.1 bt212.2.2.2.2.2.2.2.1) else (undercroftlaw06_GeomTells.j0 k a2 bt212.2.2.2.2.2.2.2.2 (bt212.2.2.2.2.2.2.2.2 != bt222.2.2.2.2.2.2.2.2) a1_0 a1_1 a1_2 a1_3 a1_4 a1_5 a1_6 a1_7 bt212.1 bt212.2.1 bt212.2.2.1 bt212.2.2.2.1 bt212.2.2.2.2.1 bt212.2.2.2.2.2.1 bt212.2.2.2.2.2.2.1 bt212.2.2.2.2.2.2.2.1)))) else (some false))) = some r := h
  clear h
  replace H := Option.bind_eq_some_iff.mp H
  obtain ⟨t211, A40, H⟩ := H
  replace H : (if t211 = true then ((geom_Layout.f a0).bind fun bt212 => ((undercroftref06_Layout.f a0).bind fun bt222 => (if (!(bt212.1 == bt222.1) || (!(bt212.2.1 == bt222.2.1) || (!(bt212.2.2.1 == bt222.2.2.1) || (!(bt212.2.2.2.1 == bt222.2.2.2.1) || (!(bt212.2.2.2.2.1 == bt222.2.2.2.2.1) || (!(bt212.2.2.2.2.2.1 == bt222.2.2.2.2.2.1) || (!(bt212.2.2.2.2.2.2.1 == bt222.2.2.2.2.2.2.1) || (!(bt212.2.2.2.2.2.2.2.1 == bt222.2.2.2.2.2.2.2.1))))))))) = true then (undercroftlaw06_GeomTells.j0 k a2 bt212.2.2.2.2.2.2.2.2 true a1_0 a1_1 a1_2 a1_3 a1_4 a1_5 a1_6 a1_7 bt212.1 bt212.2.1 bt212.2.2.1 bt212.2.2.2.1 bt212.2.2.2.2.1 bt212.2.2.2.2.2.1 bt212.2.2.2.2.2.2.1 bt212.2.2.2.2.2.2.2.1) else (undercroftlaw06_GeomTells.j0 k a2 bt212.2.2.2.2.2.2.2.2 (bt212.2.2.2.2.2.2.2.2 != bt222.2.2.2.2.2.2.2.2) a1_0 a1_1 a1_2 a1_3 a1_4 a1_5 a1_6 a1_7 bt212.1 bt212.2.1 bt212.2.2.1 bt212.2.2.2.1 bt212.2.2.2.2.1 bt212.2.2.2.2.2.1 bt212.2.2.2.2.2.2.1 bt212.2.2.2.2.2.2.2.1)))) else (some false)) = some r := H
  have A4 := Aside0.mk A40
  clear A40
  by_cases c5 : t211 = true
  · subst c5
    have H1 : ((geom_Layout.f a0).bind fun bt212 => ((undercroftref06_Layout.f a0).bind fun bt222 => (if (!(bt212.1 == bt222.1) || (!(bt212.2.1 == bt222.2.1) || (!(bt212.2.2.1 == bt222.2.2.1) || (!(bt212.2.2.2.1 == bt222.2.2.2.1) || (!(bt212.2.2.2.2.1 == bt222.2.2.2.2.1) || (!(bt212.2.2.2.2.2.1 == bt222.2.2.2.2.2.1) || (!(bt212.2.2.2.2.2.2.1 == bt222.2.2.2.2.2.2.1) || (!(bt212.2.2.2.2.2.2.2.1 == bt222.2.2.2.2.2.2.2.1))))))))) = true then (undercroftlaw06_GeomTells.j0 k a2 bt212.2.2.2.2.2.2.2.2 true a1_0 a1_1 a1_2 a1_3 a1_4 a1_5 a1_6 a1_7 bt212.1 bt212.2.1 bt212.2.2.1 bt212.2.2.2.1 bt212.2.2.2.2.1 bt212.2.2.2.2.2.1 bt212.2.2.2.2.2.2.1 bt212.2.2.2.2.2.2.2.1) else (undercroftlaw06_GeomTells.j0 k a2 bt212.2.2.2.2.2.2.2.2 (bt212.2.2.2.2.2.2.2.2 != bt222.2.2.2.2.2.2.2.2) a1_0 a1_1 a1_2 a1_3 a1_4 a1_5 a1_6 a1_7 bt212.1 bt212.2.1 bt212.2.2.1 bt212.2.2.2.1 bt212.2.2.2.2.1 bt212.2.2.2.2.2.1 bt212.2.2.2.2.2.2.1 bt212.2.2.2.2.2.2.2.1)))) = some r := by rw [if_pos rfl] at H; exact H
    clear H
    have H := H1
    clear H1
    replace H := Option.bind_eq_some_iff.mp H
    obtain ⟨⟨t212, t213, t214, t215, t216, t217, t218, t219, t220⟩, A60, H⟩ := H
    replace H : ((undercroftref06_Layout.f a0).bind fun bt222 => (if (!(t212 == bt222.1) || (!(t213 == bt222.2.1) || (!(t214 == bt222.2.2.1) || (!(t215 == bt222.2.2.2.1) || (!(t216 == bt222.2.2.2.2.1) || (!(t217 == bt222.2.2.2.2.2.1) || (!(t218 == bt222.2.2.2.2.2.2.1) || (!(t219 == bt222.2.2.2.2.2.2.2.1))))))))) = true then (undercroftlaw06_GeomTells.j0 k a2 t220 true a1_0 a1_1 a1_2 a1_3 a1_4 a1_5 a1_6 a1_7 t212 t213 t214 t215 t216 t217 t218 t219) else (undercroftlaw06_GeomTells.j0 k a2 t220 (t220 != bt222.2.2.2.2.2.2.2.2) a1_0 a1_1 a1_2 a1_3 a1_4 a1_5 a1_6 a1_7 t212 t213 t214 t215 t216 t217 t218 t219))) = some r := H
    have A6 := Aside0.mk A60
    clear A60
    replace H := Option.bind_eq_some_iff.mp H
    obtain ⟨⟨t222, t223, t224, t225, t226, t227, t228, t229, t230⟩, A70, H⟩ := H
    replace H : (if (!(t212 == t222) || (!(t213 == t223) || (!(t214 == t224) || (!(t215 == t225) || (!(t216 == t226) || (!(t217 == t227) || (!(t218 == t228) || (!(t219 == t229))))))))) = true then (undercroftlaw06_GeomTells.j0 k a2 t220 true a1_0 a1_1 a1_2 a1_3 a1_4 a1_5 a1_6 a1_7 t212 t213 t214 t215 t216 t217 t218 t219) else (undercroftlaw06_GeomTells.j0 k a2 t220 (t220 != t230) a1_0 a1_1 a1_2 a1_3 a1_4 a1_5 a1_6 a1_7 t212 t213 t214 t215 t216 t217 t218 t219)) = some r := H
    have A7 := Aside0.mk A70
    clear A70
    have HC8 := Aside0.mk H
    clear H
    go_enter Try.func4, Try.ntmps4
    go_upto_region 5 with (first | ((with_reducible refine gate_dst (N := 4) rfl ?_); refine box_event ?hg (N := 4) ?hd (cs := #[.int .i64 a1_0, .int .i64 a1_1, .int .i64 a1_2, .int .i64 a1_3, .int .i64 a1_4, .int .i64 a1_5, .int .i64 a1_6, .int .i64 a1_7]) (t := 24) ?hr ?_; (case hd => rfl); (case hg => rfl); (case hr => go_simp; first | done | rfl); intro gb210 hg w9 hbox hb; have n0_ := Aside0.mk (below_step (by repeat (first | (with_reducible first | exact HB.out | apply below_alloc | apply pw_below_drewN | apply below_drew1) | exact HB.out)) hb); have n1_ := Aside0.mk (hbox); have n2_ := Aside0.mk ((by rw [hg]; exact (below_size (by repeat (first | (with_reducible first | exact HB.out | apply below_alloc | apply pw_below_drewN | apply below_drew1) | exact HB.out))) : w.heap.size ≤ gb210)); have n3_ := Aside0.mk ((by rw [hg]; exact (below_size (by repeat (first | (with_reducible first | exact HB.out | apply below_alloc | apply pw_below_drewN | apply below_drew1) | exact HB.out))) : w.heap.size ≤ gb210)); clear HB; have HB := n0_; have BK210 := n1_; have GW210 := n2_; have GE210 := n3_; clear n0_ n1_ n2_ n3_; clear hb hbox hg) | ((with_reducible refine gate_callee (f := 8) rfl ?_); refine goesL_ (some 21) rfl rfl Try.func8 (by kernel_rfl) rfl #[] rfl (by (try simp only [List.map_toArray, List.map_cons, List.map_nil]); first | done | rfl | (simp only [List.length_drop, List.length_take]; rfl)) ?_; (with_reducible refine (undercroftlaw06_alive.calls  true _ A4.out rfl).mono ?_); rintro e w10 ⟨rfl, hb⟩; refine ⟨_, rfl, ?_⟩; have n0_ := Aside0.mk (blk_below (g := gb210) (o := .cells #[.int .i64 a1_0, .int .i64 a1_1, .int .i64 a1_2, .int .i64 a1_3, .int .i64 a1_4, .int .i64 a1_5, .int .i64 a1_6, .int .i64 a1_7] 24 (0, 0)) (by (with_reducible repeat (first | refine blk_drewN ?_ _ | refine blk_drew ?_ | refine blk_alloc ?_ _)); exact BK210.out) hb); have n1_ := Aside0.mk (below_step (by repeat (first | (with_reducible first | exact HB.out | apply below_alloc | apply pw_below_drewN | apply below_drew1 | refine below_set ?_ GE210.out) | exact HB.out)) hb); clear BK210; clear HB; have BK210 := n0_; have HB := n1_; clear n0_ n1_; (try clear hb); (try clear hb2); (try clear hk); (try clear hi)) | ((with_reducible refine gate_callee (f := 9) rfl ?_); refine goesL_ (some 25) rfl rfl Try.func9 (by kernel_rfl) rfl #[.int .i64 a0] rfl (by (try simp only [List.map_toArray, List.map_cons, List.map_nil]); first | done | rfl | (simp only [List.length_drop, List.length_take]; rfl)) ?_; (with_reducible refine (geom_Layout.calls a0 t212 t213 t214 t215 t216 t217 t218 t219 t220 _ A6.out).mono ?_); rintro e w11 ⟨rfl, hb⟩; refine ⟨_, rfl, ?_⟩; have n0_ := Aside0.mk (blk_below (g := gb210) (o := .cells #[.int .i64 a1_0, .int .i64 a1_1, .int .i64 a1_2, .int .i64 a1_3, .int .i64 a1_4, .int .i64 a1_5, .int .i64 a1_6, .int .i64 a1_7] 24 (0, 0)) (by (with_reducible repeat (first | refine blk_drewN ?_ _ | refine blk_drew ?_ | refine blk_alloc ?_ _)); exact BK210.out) hb); have n1_ := Aside0.mk (below_step (by repeat (first | (with_reducible first | exact HB.out | apply below_alloc | apply pw_below_drewN | apply below_drew1 | refine below_set ?_ GE210.out) | exact HB.out)) hb); clear BK210; clear HB; have BK210 := n0_; have HB := n1_; clear n0_ n1_; (try clear hb); (try clear hb2); (try clear hk); (try clear hi)) | ((with_reducible refine gate_dst (N := 7) rfl ?_); refine box_event ?hg (N := 7) ?hd (cs := #[.int .i64 0, .int .i64 0, .int .i64 0, .int .i64 0, .int .i64 0, .int .i64 0, .int .i64 0, .int .i64 0]) (t := 24) ?hr ?_; (case hd => rfl); (case hg => rfl); (case hr => go_simp; first | done | rfl); intro gb221 hg w12 hbox hb; have n0_ := Aside0.mk (blk_below (g := gb210) (o := .cells #[.int .i64 a1_0, .int .i64 a1_1, .int .i64 a1_2, .int .i64 a1_3, .int .i64 a1_4, .int .i64 a1_5, .int .i64 a1_6, .int .i64 a1_7] 24 (0, 0)) (by (with_reducible repeat (first | refine blk_drewN ?_ _ | refine blk_drew ?_ | refine blk_alloc ?_ _)); exact BK210.out) hb); have n1_ := Aside0.mk (below_step (by repeat (first | (with_reducible first | exact HB.out | apply below_alloc | apply pw_below_drewN | apply below_drew1 | refine below_set ?_ GE210.out) | exact HB.out)) hb); have n2_ := Aside0.mk (hbox); have n3_ := Aside0.mk ((by rw [hg]; exact (below_size (by repeat (first | (with_reducible first | exact HB.out | apply below_alloc | apply pw_below_drewN | apply below_drew1 | refine below_set ?_ GE210.out) | exact HB.out))) : w.heap.size ≤ gb221)); have n4_ := Aside0.mk ((by rw [hg]; exact (below_size (by repeat (first | (with_reducible first | exact HB.out | apply below_alloc | apply pw_below_drewN | apply below_drew1 | refine below_set ?_ GE210.out) | exact HB.out))) : w.heap.size ≤ gb221)); have n5_ := Aside0.mk ((by rw [hg]; exact Nat.ne_of_lt (blk_lt (g := gb210) (o := .cells #[.int .i64 a1_0, .int .i64 a1_1, .int .i64 a1_2, .int .i64 a1_3, .int .i64 a1_4, .int .i64 a1_5, .int .i64 a1_6, .int .i64 a1_7] 24 (0, 0)) (by (with_reducible repeat (first | refine blk_drewN ?_ _ | refine blk_drew ?_ | refine blk_alloc ?_ _)); exact BK210.out)) : gb210 ≠ gb221)); have n6_ := Aside0.mk ((by rw [hg]; exact Nat.ne_of_gt (blk_lt (g := gb210) (o := .cells #[.int .i64 a1_0, .int .i64 a1_1, .int .i64 a1_2, .int .i64 a1_3, .int .i64 a1_4, .int .i64 a1_5, .int .i64 a1_6, .int .i64 a1_7] 24 (0, 0)) (by (with_reducible repeat (first | refine blk_drewN ?_ _ | refine blk_drew ?_ | refine blk_alloc ?_ _)); exact BK210.out)) : gb221 ≠ gb210)); clear BK210; clear HB; have BK210 := n0_; have HB := n1_; have BK221 := n2_; have GW221 := n3_; have GE221 := n4_; have NB210_221 := n5_; have NB221_210 := n6_; clear n0_ n1_ n2_ n3_ n4_ n5_ n6_; clear hb hbox hg; have hnb13 := NB221_210.out; have hnc13 := NB210_221.out; have hcz14_0 : w12.cell? ⟨gb221, 0, none⟩ = some (.int .i64 0) := (blk_cell BK221.out 0).trans rfl; have hcz14_1 : w12.cell? ⟨gb221, 1, none⟩ = some (.int .i64 0) := (blk_cell BK221.out 1).trans rfl; have hcz14_2 : w12.cell? ⟨gb221, 2, none⟩ = some (.int .i64 0) := (blk_cell BK221.out 2).trans rfl; have hcz14_3 : w12.cell? ⟨gb221, 3, none⟩ = some (.int .i64 0) := (blk_cell BK221.out 3).trans rfl; have hcz14_4 : w12.cell? ⟨gb221, 4, none⟩ = some (.int .i64 0) := (blk_cell BK221.out 4).trans rfl; have hcz14_5 : w12.cell? ⟨gb221, 5, none⟩ = some (.int .i64 0) := (blk_cell BK221.out 5).trans rfl; have hcz14_6 : w12.cell? ⟨gb221, 6, none⟩ = some (.int .i64 0) := (blk_cell BK221.out 6).trans rfl; have hcz14_7 : w12.cell? ⟨gb221, 7, none⟩ = some (.int .i64 0) := (blk_cell BK221.out 7).trans rfl; have hfz14_0 := blk_frozen BK221.out 0; have hfz14_1 := blk_frozen BK221.out 1; have hfz14_2 := blk_frozen BK221.out 2; have hfz14_3 := blk_frozen BK221.out 3; have hfz14_4 := blk_frozen BK221.out 4; have hfz14_5 := blk_frozen BK221.out 5; have hfz14_6 := blk_frozen BK221.out 6; have hfz14_7 := blk_frozen BK221.out 7) | ((with_reducible refine gate_callee (f := 11) rfl ?_); refine goesL_ (some 30) rfl rfl Try.func11 (by kernel_rfl) rfl #[.int .i64 a0] rfl (by (try simp only [List.map_toArray, List.map_cons, List.map_nil]); first | done | rfl | (simp only [List.length_drop, List.length_take]; rfl)) ?_; (with_reducible refine (undercroftref06_Layout.calls a0 t222 t223 t224 t225 t226 t227 t228 t229 t230 _ A7.out).mono ?_); rintro e w15 ⟨rfl, hb⟩; refine ⟨_, rfl, ?_⟩; have n0_ := Aside0.mk (blk_below (g := gb210) (o := .cells #[.int .i64 a1_0, .int .i64 a1_1, .int .i64 a1_2, .int .i64 a1_3, .int .i64 a1_4, .int .i64 a1_5, .int .i64 a1_6, .int .i64 a1_7] 24 (0, 0)) (by (with_reducible repeat (first | refine blk_drewN ?_ _ | refine blk_drew ?_ | refine blk_alloc ?_ _)); refine blk_far ?_ NB210_221.out _; (with_reducible repeat (first | refine blk_drewN ?_ _ | refine blk_drew ?_ | refine blk_alloc ?_ _)); refine blk_far ?_ NB210_221.out _; (with_reducible repeat (first | refine blk_drewN ?_ _ | refine blk_drew ?_ | refine blk_alloc ?_ _)); refine blk_far ?_ NB210_221.out _; (with_reducible repeat (first | refine blk_drewN ?_ _ | refine blk_drew ?_ | refine blk_alloc ?_ _)); refine blk_far ?_ NB210_221.out _; (with_reducible repeat (first | refine blk_drewN ?_ _ | refine blk_drew ?_ | refine blk_alloc ?_ _)); refine blk_far ?_ NB210_221.out _; (with_reducible repeat (first | refine blk_drewN ?_ _ | refine blk_drew ?_ | refine blk_alloc ?_ _)); refine blk_far ?_ NB210_221.out _; (with_reducible repeat (first | refine blk_drewN ?_ _ | refine blk_drew ?_ | refine blk_alloc ?_ _)); refine blk_far ?_ NB210_221.out _; (with_reducible repeat (first | refine blk_drewN ?_ _ | refine blk_drew ?_ | refine blk_alloc ?_ _)); refine blk_far ?_ NB210_221.out _; (with_reducible repeat (first | refine blk_drewN ?_ _ | refine blk_drew ?_ | refine blk_alloc ?_ _)); exact BK210.out) hb); have n1_ := Aside0.mk (blk_below (g := gb221) (o := .cells #[.int .i64 t212, .int .i64 t213, .int .i64 t214, .int .i64 t215, .int .i64 t216, .int .i64 t217, .int .i64 t218, .int .i64 t219] 24 (0, 0)) (by (with_reducible repeat (first | refine blk_drewN ?_ _ | refine blk_drew ?_ | refine blk_alloc ?_ _)); refine blk_put (cs := #[.int .i64 t212, .int .i64 t213, .int .i64 t214, .int .i64 t215, .int .i64 t216, .int .i64 t217, .int .i64 t218, .int .i64 0]) ?_ 7 _ rfl; (with_reducible repeat (first | refine blk_drewN ?_ _ | refine blk_drew ?_ | refine blk_alloc ?_ _)); refine blk_put (cs := #[.int .i64 t212, .int .i64 t213, .int .i64 t214, .int .i64 t215, .int .i64 t216, .int .i64 t217, .int .i64 0, .int .i64 0]) ?_ 6 _ rfl; (with_reducible repeat (first | refine blk_drewN ?_ _ | refine blk_drew ?_ | refine blk_alloc ?_ _)); refine blk_put (cs := #[.int .i64 t212, .int .i64 t213, .int .i64 t214, .int .i64 t215, .int .i64 t216, .int .i64 0, .int .i64 0, .int .i64 0]) ?_ 5 _ rfl; (with_reducible repeat (first | refine blk_drewN ?_ _ | refine blk_drew ?_ | refine blk_alloc ?_ _)); refine blk_put (cs := #[.int .i64 t212, .int .i64 t213, .int .i64 t214, .int .i64 t215, .int .i64 0, .int .i64 0, .int .i64 0, .int .i64 0]) ?_ 4 _ rfl; (with_reducible repeat (first | refine blk_drewN ?_ _ | refine blk_drew ?_ | refine blk_alloc ?_ _)); refine blk_put (cs := #[.int .i64 t212, .int .i64 t213, .int .i64 t214, .int .i64 0, .int .i64 0, .int .i64 0, .int .i64 0, .int .i64 0]) ?_ 3 _ rfl; (with_reducible repeat (first | refine blk_drewN ?_ _ | refine blk_drew ?_ | refine blk_alloc ?_ _)); refine blk_put (cs := #[.int .i64 t212, .int .i64 t213, .int .i64 0, .int .i64 0, .int .i64 0, .int .i64 0, .int .i64 0, .int .i64 0]) ?_ 2 _ rfl; (with_reducible repeat (first | refine blk_drewN ?_ _ | refine blk_drew ?_ | refine blk_alloc ?_ _)); refine blk_put (cs := #[.int .i64 t212, .int .i64 0, .int .i64 0, .int .i64 0, .int .i64 0, .int .i64 0, .int .i64 0, .int .i64 0]) ?_ 1 _ rfl; (with_reducible repeat (first | refine blk_drewN ?_ _ | refine blk_drew ?_ | refine blk_alloc ?_ _)); refine blk_put (cs := #[.int .i64 0, .int .i64 0, .int .i64 0, .int .i64 0, .int .i64 0, .int .i64 0, .int .i64 0, .int .i64 0]) ?_ 0 _ rfl; (with_reducible repeat (first | refine blk_drewN ?_ _ | refine blk_drew ?_ | refine blk_alloc ?_ _)); exact BK221.out) hb); have n2_ := Aside0.mk (below_step (by repeat (first | (with_reducible first | exact HB.out | apply below_alloc | apply pw_below_drewN | apply below_drew1 | refine below_set ?_ GE210.out | refine below_set ?_ GE221.out) | exact HB.out)) hb); clear BK210; clear BK221; clear HB; have BK210 := n0_; have BK221 := n1_; have HB := n2_; clear n0_ n1_ n2_; (try clear hb); (try clear hb2); (try clear hk); (try clear hi)) | ((with_reducible refine gate_dst (N := 9) rfl ?_); refine box_event ?hg (N := 9) ?hd (cs := #[.int .i64 0, .int .i64 0, .int .i64 0, .int .i64 0, .int .i64 0, .int .i64 0, .int .i64 0, .int .i64 0]) (t := 24) ?hr ?_; (case hd => rfl); (case hg => rfl); (case hr => go_simp; first | done | rfl); intro gb231 hg w16 hbox hb; have n0_ := Aside0.mk (blk_below (g := gb210) (o := .cells #[.int .i64 a1_0, .int .i64 a1_1, .int .i64 a1_2, .int .i64 a1_3, .int .i64 a1_4, .int .i64 a1_5, .int .i64 a1_6, .int .i64 a1_7] 24 (0, 0)) (by (with_reducible repeat (first | refine blk_drewN ?_ _ | refine blk_drew ?_ | refine blk_alloc ?_ _)); exact BK210.out) hb); have n1_ := Aside0.mk (blk_below (g := gb221) (o := .cells #[.int .i64 t212, .int .i64 t213, .int .i64 t214, .int .i64 t215, .int .i64 t216, .int .i64 t217, .int .i64 t218, .int .i64 t219] 24 (0, 0)) (by (with_reducible repeat (first | refine blk_drewN ?_ _ | refine blk_drew ?_ | refine blk_alloc ?_ _)); exact BK221.out) hb); have n2_ := Aside0.mk (below_step (by repeat (first | (with_reducible first | exact HB.out | apply below_alloc | apply pw_below_drewN | apply below_drew1 | refine below_set ?_ GE210.out | refine below_set ?_ GE221.out) | exact HB.out)) hb); have n3_ := Aside0.mk (hbox); have n4_ := Aside0.mk ((by rw [hg]; exact (below_size (by repeat (first | (with_reducible first | exact HB.out | apply below_alloc | apply pw_below_drewN | apply below_drew1 | refine below_set ?_ GE210.out | refine below_set ?_ GE221.out) | exact HB.out))) : w.heap.size ≤ gb231)); have n5_ := Aside0.mk ((by rw [hg]; exact (below_size (by repeat (first | (with_reducible first | exact HB.out | apply below_alloc | apply pw_below_drewN | apply below_drew1 | refine below_set ?_ GE210.out | refine below_set ?_ GE221.out) | exact HB.out))) : w.heap.size ≤ gb231)); have n6_ := Aside0.mk ((by rw [hg]; exact Nat.ne_of_lt (blk_lt (g := gb210) (o := .cells #[.int .i64 a1_0, .int .i64 a1_1, .int .i64 a1_2, .int .i64 a1_3, .int .i64 a1_4, .int .i64 a1_5, .int .i64 a1_6, .int .i64 a1_7] 24 (0, 0)) (by (with_reducible repeat (first | refine blk_drewN ?_ _ | refine blk_drew ?_ | refine blk_alloc ?_ _)); exact BK210.out)) : gb210 ≠ gb231)); have n7_ := Aside0.mk ((by rw [hg]; exact Nat.ne_of_gt (blk_lt (g := gb210) (o := .cells #[.int .i64 a1_0, .int .i64 a1_1, .int .i64 a1_2, .int .i64 a1_3, .int .i64 a1_4, .int .i64 a1_5, .int .i64 a1_6, .int .i64 a1_7] 24 (0, 0)) (by (with_reducible repeat (first | refine blk_drewN ?_ _ | refine blk_drew ?_ | refine blk_alloc ?_ _)); exact BK210.out)) : gb231 ≠ gb210)); have n8_ := Aside0.mk ((by rw [hg]; exact Nat.ne_of_lt (blk_lt (g := gb221) (o := .cells #[.int .i64 t212, .int .i64 t213, .int .i64 t214, .int .i64 t215, .int .i64 t216, .int .i64 t217, .int .i64 t218, .int .i64 t219] 24 (0, 0)) (by (with_reducible repeat (first | refine blk_drewN ?_ _ | refine blk_drew ?_ | refine blk_alloc ?_ _)); exact BK221.out)) : gb221 ≠ gb231)); have n9_ := Aside0.mk ((by rw [hg]; exact Nat.ne_of_gt (blk_lt (g := gb221) (o := .cells #[.int .i64 t212, .int .i64 t213, .int .i64 t214, .int .i64 t215, .int .i64 t216, .int .i64 t217, .int .i64 t218, .int .i64 t219] 24 (0, 0)) (by (with_reducible repeat (first | refine blk_drewN ?_ _ | refine blk_drew ?_ | refine blk_alloc ?_ _)); exact BK221.out)) : gb231 ≠ gb221)); clear BK210; clear BK221; clear HB; have BK210 := n0_; have BK221 := n1_; have HB := n2_; have BK231 := n3_; have GW231 := n4_; have GE231 := n5_; have NB210_231 := n6_; have NB231_210 := n7_; have NB221_231 := n8_; have NB231_221 := n9_; clear n0_ n1_ n2_ n3_ n4_ n5_ n6_ n7_ n8_ n9_; clear hb hbox hg; have hnb17 := NB231_210.out; have hnc17 := NB210_231.out; have hnb18 := NB231_221.out; have hnc18 := NB221_231.out; have hcz19_0 : w16.cell? ⟨gb231, 0, none⟩ = some (.int .i64 0) := (blk_cell BK231.out 0).trans rfl; have hcz19_1 : w16.cell? ⟨gb231, 1, none⟩ = some (.int .i64 0) := (blk_cell BK231.out 1).trans rfl; have hcz19_2 : w16.cell? ⟨gb231, 2, none⟩ = some (.int .i64 0) := (blk_cell BK231.out 2).trans rfl; have hcz19_3 : w16.cell? ⟨gb231, 3, none⟩ = some (.int .i64 0) := (blk_cell BK231.out 3).trans rfl; have hcz19_4 : w16.cell? ⟨gb231, 4, none⟩ = some (.int .i64 0) := (blk_cell BK231.out 4).trans rfl; have hcz19_5 : w16.cell? ⟨gb231, 5, none⟩ = some (.int .i64 0) := (blk_cell BK231.out 5).trans rfl; have hcz19_6 : w16.cell? ⟨gb231, 6, none⟩ = some (.int .i64 0) := (blk_cell BK231.out 6).trans rfl; have hcz19_7 : w16.cell? ⟨gb231, 7, none⟩ = some (.int .i64 0) := (blk_cell BK231.out 7).trans rfl; have hfz19_0 := blk_frozen BK231.out 0; have hfz19_1 := blk_frozen BK231.out 1; have hfz19_2 := blk_frozen BK231.out 2; have hfz19_3 := blk_frozen BK231.out 3; have hfz19_4 := blk_frozen BK231.out 4; have hfz19_5 := blk_frozen BK231.out 5; have hfz19_6 := blk_frozen BK231.out 6; have hfz19_7 := blk_frozen BK231.out 7))
    (try simp only [Act.put, List.setIfInBounds_toArray, List.set_cons_zero, List.set_cons_succ])
    go_cut [40] (fun v40 wc => ∃ (kq : Nat) (x40_7 : Bool), v40 = .bool x40_7 ∧ Aside0 (undercroftlaw06_GeomTells.j0 kq a2 t220 x40_7 a1_0 a1_1 a1_2 a1_3 a1_4 a1_5 a1_6 a1_7 t212 t213 t214 t215 t216 t217 t218 t219 = some r) ∧ Aside0 (kq ≤ k) ∧ Aside0 (wc.heap[gb210]? = some (.cells #[.int .i64 a1_0, .int .i64 a1_1, .int .i64 a1_2, .int .i64 a1_3, .int .i64 a1_4, .int .i64 a1_5, .int .i64 a1_6, .int .i64 a1_7] 24 (0, 0))) ∧ Aside0 (wc.heap[gb221]? = some (.cells #[.int .i64 t212, .int .i64 t213, .int .i64 t214, .int .i64 t215, .int .i64 t216, .int .i64 t217, .int .i64 t218, .int .i64 t219] 24 (0, 0))) ∧ Aside0 (wc.heap[gb231]? = some (.cells #[.int .i64 t222, .int .i64 t223, .int .i64 t224, .int .i64 t225, .int .i64 t226, .int .i64 t227, .int .i64 t228, .int .i64 t229] 24 (0, 0))) ∧ Aside0 (Below w.heap.size w wc))
    case first =>
      have H := HC8.out
      clear HC8
      by_cases c20 : (!(t212 == t222) || (!(t213 == t223) || (!(t214 == t224) || (!(t215 == t225) || (!(t216 == t226) || (!(t217 == t227) || (!(t218 == t228) || (!(t219 == t229))))))))) = true
      · rw [if_pos c20] at H
        have c20b0 : (!(t212 == t222) || (!(t213 == t223) || (!(t214 == t224) || (!(t215 == t225) || (!(t216 == t226) || (!(t217 == t227) || (!(t218 == t228) || (!(t219 == t229))))))))) = true := c20
        clear c20
        (first | rw [c20b0] | (simp only [i64_w, i32_w]; rw [c20b0]) | skip)
        have H' := Aside0.mk H
        clear H
        have hnb21 := NB221_210.out
        have hnc21 := NB210_221.out
        have hnb22 := NB221_231.out
        have hnc22 := NB231_221.out
        have hcz23_0 : w16.cell? ⟨gb221, 0, none⟩ = some (.int .i64 t212) := (blk_cell BK221.out 0).trans rfl
        have hcz23_1 : w16.cell? ⟨gb221, 1, none⟩ = some (.int .i64 t213) := (blk_cell BK221.out 1).trans rfl
        have hcz23_2 : w16.cell? ⟨gb221, 2, none⟩ = some (.int .i64 t214) := (blk_cell BK221.out 2).trans rfl
        have hcz23_3 : w16.cell? ⟨gb221, 3, none⟩ = some (.int .i64 t215) := (blk_cell BK221.out 3).trans rfl
        have hcz23_4 : w16.cell? ⟨gb221, 4, none⟩ = some (.int .i64 t216) := (blk_cell BK221.out 4).trans rfl
        have hcz23_5 : w16.cell? ⟨gb221, 5, none⟩ = some (.int .i64 t217) := (blk_cell BK221.out 5).trans rfl
        have hcz23_6 : w16.cell? ⟨gb221, 6, none⟩ = some (.int .i64 t218) := (blk_cell BK221.out 6).trans rfl
        have hcz23_7 : w16.cell? ⟨gb221, 7, none⟩ = some (.int .i64 t219) := (blk_cell BK221.out 7).trans rfl
        have hfz23_0 := blk_frozen BK221.out 0
        have hfz23_1 := blk_frozen BK221.out 1
        have hfz23_2 := blk_frozen BK221.out 2
        have hfz23_3 := blk_frozen BK221.out 3
        have hfz23_4 := blk_frozen BK221.out 4
        have hfz23_5 := blk_frozen BK221.out 5
        have hfz23_6 := blk_frozen BK221.out 6
        have hfz23_7 := blk_frozen BK221.out 7
        have hnb24 := NB231_210.out
        have hnc24 := NB210_231.out
        have hcz25_0 : w16.cell? ⟨gb231, 0, none⟩ = some (.int .i64 0) := (blk_cell BK231.out 0).trans rfl
        have hcz25_1 : w16.cell? ⟨gb231, 1, none⟩ = some (.int .i64 0) := (blk_cell BK231.out 1).trans rfl
        have hcz25_2 : w16.cell? ⟨gb231, 2, none⟩ = some (.int .i64 0) := (blk_cell BK231.out 2).trans rfl
        have hcz25_3 : w16.cell? ⟨gb231, 3, none⟩ = some (.int .i64 0) := (blk_cell BK231.out 3).trans rfl
        have hcz25_4 : w16.cell? ⟨gb231, 4, none⟩ = some (.int .i64 0) := (blk_cell BK231.out 4).trans rfl
        have hcz25_5 : w16.cell? ⟨gb231, 5, none⟩ = some (.int .i64 0) := (blk_cell BK231.out 5).trans rfl
        have hcz25_6 : w16.cell? ⟨gb231, 6, none⟩ = some (.int .i64 0) := (blk_cell BK231.out 6).trans rfl
        have hcz25_7 : w16.cell? ⟨gb231, 7, none⟩ = some (.int .i64 0) := (blk_cell BK231.out 7).trans rfl
        have hfz25_0 := blk_frozen BK231.out 0
        have hfz25_1 := blk_frozen BK231.out 1
        have hfz25_2 := blk_frozen BK231.out 2
        have hfz25_3 := blk_frozen BK231.out 3
        have hfz25_4 := blk_frozen BK231.out 4
        have hfz25_5 := blk_frozen BK231.out 5
        have hfz25_6 := blk_frozen BK231.out 6
        have hfz25_7 := blk_frozen BK231.out 7
        go_wp2
        go_meet
        case rel => exact ⟨_, (true), (by first | rfl | (simp; done) | (simp [*]; done)), H', ⟨by first | omega | exact Nat.le_refl _⟩, ⟨by (with_reducible repeat (first | refine blk_drewN ?_ _ | refine blk_drew ?_ | refine blk_alloc ?_ _)); refine blk_far ?_ NB210_231.out _; (with_reducible repeat (first | refine blk_drewN ?_ _ | refine blk_drew ?_ | refine blk_alloc ?_ _)); refine blk_far ?_ NB210_231.out _; (with_reducible repeat (first | refine blk_drewN ?_ _ | refine blk_drew ?_ | refine blk_alloc ?_ _)); refine blk_far ?_ NB210_231.out _; (with_reducible repeat (first | refine blk_drewN ?_ _ | refine blk_drew ?_ | refine blk_alloc ?_ _)); refine blk_far ?_ NB210_231.out _; (with_reducible repeat (first | refine blk_drewN ?_ _ | refine blk_drew ?_ | refine blk_alloc ?_ _)); refine blk_far ?_ NB210_231.out _; (with_reducible repeat (first | refine blk_drewN ?_ _ | refine blk_drew ?_ | refine blk_alloc ?_ _)); refine blk_far ?_ NB210_231.out _; (with_reducible repeat (first | refine blk_drewN ?_ _ | refine blk_drew ?_ | refine blk_alloc ?_ _)); refine blk_far ?_ NB210_231.out _; (with_reducible repeat (first | refine blk_drewN ?_ _ | refine blk_drew ?_ | refine blk_alloc ?_ _)); refine blk_far ?_ NB210_231.out _; (with_reducible repeat (first | refine blk_drewN ?_ _ | refine blk_drew ?_ | refine blk_alloc ?_ _)); exact BK210.out⟩, ⟨by (with_reducible repeat (first | refine blk_drewN ?_ _ | refine blk_drew ?_ | refine blk_alloc ?_ _)); refine blk_far ?_ NB221_231.out _; (with_reducible repeat (first | refine blk_drewN ?_ _ | refine blk_drew ?_ | refine blk_alloc ?_ _)); refine blk_far ?_ NB221_231.out _; (with_reducible repeat (first | refine blk_drewN ?_ _ | refine blk_drew ?_ | refine blk_alloc ?_ _)); refine blk_far ?_ NB221_231.out _; (with_reducible repeat (first | refine blk_drewN ?_ _ | refine blk_drew ?_ | refine blk_alloc ?_ _)); refine blk_far ?_ NB221_231.out _; (with_reducible repeat (first | refine blk_drewN ?_ _ | refine blk_drew ?_ | refine blk_alloc ?_ _)); refine blk_far ?_ NB221_231.out _; (with_reducible repeat (first | refine blk_drewN ?_ _ | refine blk_drew ?_ | refine blk_alloc ?_ _)); refine blk_far ?_ NB221_231.out _; (with_reducible repeat (first | refine blk_drewN ?_ _ | refine blk_drew ?_ | refine blk_alloc ?_ _)); refine blk_far ?_ NB221_231.out _; (with_reducible repeat (first | refine blk_drewN ?_ _ | refine blk_drew ?_ | refine blk_alloc ?_ _)); refine blk_far ?_ NB221_231.out _; (with_reducible repeat (first | refine blk_drewN ?_ _ | refine blk_drew ?_ | refine blk_alloc ?_ _)); exact BK221.out⟩, ⟨by (with_reducible repeat (first | refine blk_drewN ?_ _ | refine blk_drew ?_ | refine blk_alloc ?_ _)); refine blk_put (cs := #[.int .i64 t222, .int .i64 t223, .int .i64 t224, .int .i64 t225, .int .i64 t226, .int .i64 t227, .int .i64 t228, .int .i64 0]) ?_ 7 _ rfl; (with_reducible repeat (first | refine blk_drewN ?_ _ | refine blk_drew ?_ | refine blk_alloc ?_ _)); refine blk_put (cs := #[.int .i64 t222, .int .i64 t223, .int .i64 t224, .int .i64 t225, .int .i64 t226, .int .i64 t227, .int .i64 0, .int .i64 0]) ?_ 6 _ rfl; (with_reducible repeat (first | refine blk_drewN ?_ _ | refine blk_drew ?_ | refine blk_alloc ?_ _)); refine blk_put (cs := #[.int .i64 t222, .int .i64 t223, .int .i64 t224, .int .i64 t225, .int .i64 t226, .int .i64 0, .int .i64 0, .int .i64 0]) ?_ 5 _ rfl; (with_reducible repeat (first | refine blk_drewN ?_ _ | refine blk_drew ?_ | refine blk_alloc ?_ _)); refine blk_put (cs := #[.int .i64 t222, .int .i64 t223, .int .i64 t224, .int .i64 t225, .int .i64 0, .int .i64 0, .int .i64 0, .int .i64 0]) ?_ 4 _ rfl; (with_reducible repeat (first | refine blk_drewN ?_ _ | refine blk_drew ?_ | refine blk_alloc ?_ _)); refine blk_put (cs := #[.int .i64 t222, .int .i64 t223, .int .i64 t224, .int .i64 0, .int .i64 0, .int .i64 0, .int .i64 0, .int .i64 0]) ?_ 3 _ rfl; (with_reducible repeat (first | refine blk_drewN ?_ _ | refine blk_drew ?_ | refine blk_alloc ?_ _)); refine blk_put (cs := #[.int .i64 t222, .int .i64 t223, .int .i64 0, .int .i64 0, .int .i64 0, .int .i64 0, .int .i64 0, .int .i64 0]) ?_ 2 _ rfl; (with_reducible repeat (first | refine blk_drewN ?_ _ | refine blk_drew ?_ | refine blk_alloc ?_ _)); refine blk_put (cs := #[.int .i64 t222, .int .i64 0, .int .i64 0, .int .i64 0, .int .i64 0, .int .i64 0, .int .i64 0, .int .i64 0]) ?_ 1 _ rfl; (with_reducible repeat (first | refine blk_drewN ?_ _ | refine blk_drew ?_ | refine blk_alloc ?_ _)); refine blk_put (cs := #[.int .i64 0, .int .i64 0, .int .i64 0, .int .i64 0, .int .i64 0, .int .i64 0, .int .i64 0, .int .i64 0]) ?_ 0 _ rfl; (with_reducible repeat (first | refine blk_drewN ?_ _ | refine blk_drew ?_ | refine blk_alloc ?_ _)); exact BK231.out⟩, ⟨by repeat (first | (with_reducible first | exact HB.out | apply below_alloc | apply pw_below_drewN | apply below_drew1 | refine below_set ?_ GE210.out | refine below_set ?_ GE221.out | refine below_set ?_ GE231.out) | exact HB.out)⟩⟩
      rw [if_neg c20] at H
      have c20b0 : (!(t212 == t222) || (!(t213 == t223) || (!(t214 == t224) || (!(t215 == t225) || (!(t216 == t226) || (!(t217 == t227) || (!(t218 == t228) || (!(t219 == t229))))))))) = false := by simpa using c20
      clear c20
      (first | rw [c20b0] | (simp only [i64_w, i32_w]; rw [c20b0]) | skip)
      have H' := Aside0.mk H
      clear H
      have hnb26 := NB221_210.out
      have hnc26 := NB210_221.out
      have hnb27 := NB221_231.out
      have hnc27 := NB231_221.out
      have hcz28_0 : w16.cell? ⟨gb221, 0, none⟩ = some (.int .i64 t212) := (blk_cell BK221.out 0).trans rfl
      have hcz28_1 : w16.cell? ⟨gb221, 1, none⟩ = some (.int .i64 t213) := (blk_cell BK221.out 1).trans rfl
      have hcz28_2 : w16.cell? ⟨gb221, 2, none⟩ = some (.int .i64 t214) := (blk_cell BK221.out 2).trans rfl
      have hcz28_3 : w16.cell? ⟨gb221, 3, none⟩ = some (.int .i64 t215) := (blk_cell BK221.out 3).trans rfl
      have hcz28_4 : w16.cell? ⟨gb221, 4, none⟩ = some (.int .i64 t216) := (blk_cell BK221.out 4).trans rfl
      have hcz28_5 : w16.cell? ⟨gb221, 5, none⟩ = some (.int .i64 t217) := (blk_cell BK221.out 5).trans rfl
      have hcz28_6 : w16.cell? ⟨gb221, 6, none⟩ = some (.int .i64 t218) := (blk_cell BK221.out 6).trans rfl
      have hcz28_7 : w16.cell? ⟨gb221, 7, none⟩ = some (.int .i64 t219) := (blk_cell BK221.out 7).trans rfl
      have hfz28_0 := blk_frozen BK221.out 0
      have hfz28_1 := blk_frozen BK221.out 1
      have hfz28_2 := blk_frozen BK221.out 2
      have hfz28_3 := blk_frozen BK221.out 3
      have hfz28_4 := blk_frozen BK221.out 4
      have hfz28_5 := blk_frozen BK221.out 5
      have hfz28_6 := blk_frozen BK221.out 6
      have hfz28_7 := blk_frozen BK221.out 7
      have hnb29 := NB231_210.out
      have hnc29 := NB210_231.out
      have hcz30_0 : w16.cell? ⟨gb231, 0, none⟩ = some (.int .i64 0) := (blk_cell BK231.out 0).trans rfl
      have hcz30_1 : w16.cell? ⟨gb231, 1, none⟩ = some (.int .i64 0) := (blk_cell BK231.out 1).trans rfl
      have hcz30_2 : w16.cell? ⟨gb231, 2, none⟩ = some (.int .i64 0) := (blk_cell BK231.out 2).trans rfl
      have hcz30_3 : w16.cell? ⟨gb231, 3, none⟩ = some (.int .i64 0) := (blk_cell BK231.out 3).trans rfl
      have hcz30_4 : w16.cell? ⟨gb231, 4, none⟩ = some (.int .i64 0) := (blk_cell BK231.out 4).trans rfl
      have hcz30_5 : w16.cell? ⟨gb231, 5, none⟩ = some (.int .i64 0) := (blk_cell BK231.out 5).trans rfl
      have hcz30_6 : w16.cell? ⟨gb231, 6, none⟩ = some (.int .i64 0) := (blk_cell BK231.out 6).trans rfl
      have hcz30_7 : w16.cell? ⟨gb231, 7, none⟩ = some (.int .i64 0) := (blk_cell BK231.out 7).trans rfl
      have hfz30_0 := blk_frozen BK231.out 0
      have hfz30_1 := blk_frozen BK231.out 1
      have hfz30_2 := blk_frozen BK231.out 2
      have hfz30_3 := blk_frozen BK231.out 3
      have hfz30_4 := blk_frozen BK231.out 4
      have hfz30_5 := blk_frozen BK231.out 5
      have hfz30_6 := blk_frozen BK231.out 6
      have hfz30_7 := blk_frozen BK231.out 7
      go_wp2
      go_meet
      case rel => exact ⟨_, ((t220 != t230)), (by first | rfl | (simp; done) | (simp [*]; done)), H', ⟨by first | omega | exact Nat.le_refl _⟩, ⟨by (with_reducible repeat (first | refine blk_drewN ?_ _ | refine blk_drew ?_ | refine blk_alloc ?_ _)); refine blk_far ?_ NB210_231.out _; (with_reducible repeat (first | refine blk_drewN ?_ _ | refine blk_drew ?_ | refine blk_alloc ?_ _)); refine blk_far ?_ NB210_231.out _; (with_reducible repeat (first | refine blk_drewN ?_ _ | refine blk_drew ?_ | refine blk_alloc ?_ _)); refine blk_far ?_ NB210_231.out _; (with_reducible repeat (first | refine blk_drewN ?_ _ | refine blk_drew ?_ | refine blk_alloc ?_ _)); refine blk_far ?_ NB210_231.out _; (with_reducible repeat (first | refine blk_drewN ?_ _ | refine blk_drew ?_ | refine blk_alloc ?_ _)); refine blk_far ?_ NB210_231.out _; (with_reducible repeat (first | refine blk_drewN ?_ _ | refine blk_drew ?_ | refine blk_alloc ?_ _)); refine blk_far ?_ NB210_231.out _; (with_reducible repeat (first | refine blk_drewN ?_ _ | refine blk_drew ?_ | refine blk_alloc ?_ _)); refine blk_far ?_ NB210_231.out _; (with_reducible repeat (first | refine blk_drewN ?_ _ | refine blk_drew ?_ | refine blk_alloc ?_ _)); refine blk_far ?_ NB210_231.out _; (with_reducible repeat (first | refine blk_drewN ?_ _ | refine blk_drew ?_ | refine blk_alloc ?_ _)); exact BK210.out⟩, ⟨by (with_reducible repeat (first | refine blk_drewN ?_ _ | refine blk_drew ?_ | refine blk_alloc ?_ _)); refine blk_far ?_ NB221_231.out _; (with_reducible repeat (first | refine blk_drewN ?_ _ | refine blk_drew ?_ | refine blk_alloc ?_ _)); refine blk_far ?_ NB221_231.out _; (with_reducible repeat (first | refine blk_drewN ?_ _ | refine blk_drew ?_ | refine blk_alloc ?_ _)); refine blk_far ?_ NB221_231.out _; (with_reducible repeat (first | refine blk_drewN ?_ _ | refine blk_drew ?_ | refine blk_alloc ?_ _)); refine blk_far ?_ NB221_231.out _; (with_reducible repeat (first | refine blk_drewN ?_ _ | refine blk_drew ?_ | refine blk_alloc ?_ _)); refine blk_far ?_ NB221_231.out _; (with_reducible repeat (first | refine blk_drewN ?_ _ | refine blk_drew ?_ | refine blk_alloc ?_ _)); refine blk_far ?_ NB221_231.out _; (with_reducible repeat (first | refine blk_drewN ?_ _ | refine blk_drew ?_ | refine blk_alloc ?_ _)); refine blk_far ?_ NB221_231.out _; (with_reducible repeat (first | refine blk_drewN ?_ _ | refine blk_drew ?_ | refine blk_alloc ?_ _)); refine blk_far ?_ NB221_231.out _; (with_reducible repeat (first | refine blk_drewN ?_ _ | refine blk_drew ?_ | refine blk_alloc ?_ _)); exact BK221.out⟩, ⟨by (with_reducible repeat (first | refine blk_drewN ?_ _ | refine blk_drew ?_ | refine blk_alloc ?_ _)); refine blk_put (cs := #[.int .i64 t222, .int .i64 t223, .int .i64 t224, .int .i64 t225, .int .i64 t226, .int .i64 t227, .int .i64 t228, .int .i64 0]) ?_ 7 _ rfl; (with_reducible repeat (first | refine blk_drewN ?_ _ | refine blk_drew ?_ | refine blk_alloc ?_ _)); refine blk_put (cs := #[.int .i64 t222, .int .i64 t223, .int .i64 t224, .int .i64 t225, .int .i64 t226, .int .i64 t227, .int .i64 0, .int .i64 0]) ?_ 6 _ rfl; (with_reducible repeat (first | refine blk_drewN ?_ _ | refine blk_drew ?_ | refine blk_alloc ?_ _)); refine blk_put (cs := #[.int .i64 t222, .int .i64 t223, .int .i64 t224, .int .i64 t225, .int .i64 t226, .int .i64 0, .int .i64 0, .int .i64 0]) ?_ 5 _ rfl; (with_reducible repeat (first | refine blk_drewN ?_ _ | refine blk_drew ?_ | refine blk_alloc ?_ _)); refine blk_put (cs := #[.int .i64 t222, .int .i64 t223, .int .i64 t224, .int .i64 t225, .int .i64 0, .int .i64 0, .int .i64 0, .int .i64 0]) ?_ 4 _ rfl; (with_reducible repeat (first | refine blk_drewN ?_ _ | refine blk_drew ?_ | refine blk_alloc ?_ _)); refine blk_put (cs := #[.int .i64 t222, .int .i64 t223, .int .i64 t224, .int .i64 0, .int .i64 0, .int .i64 0, .int .i64 0, .int .i64 0]) ?_ 3 _ rfl; (with_reducible repeat (first | refine blk_drewN ?_ _ | refine blk_drew ?_ | refine blk_alloc ?_ _)); refine blk_put (cs := #[.int .i64 t222, .int .i64 t223, .int .i64 0, .int .i64 0, .int .i64 0, .int .i64 0, .int .i64 0, .int .i64 0]) ?_ 2 _ rfl; (with_reducible repeat (first | refine blk_drewN ?_ _ | refine blk_drew ?_ | refine blk_alloc ?_ _)); refine blk_put (cs := #[.int .i64 t222, .int .i64 0, .int .i64 0, .int .i64 0, .int .i64 0, .int .i64 0, .int .i64 0, .int .i64 0]) ?_ 1 _ rfl; (with_reducible repeat (first | refine blk_drewN ?_ _ | refine blk_drew ?_ | refine blk_alloc ?_ _)); refine blk_put (cs := #[.int .i64 0, .int .i64 0, .int .i64 0, .int .i64 0, .int .i64 0, .int .i64 0, .int .i64 0, .int .i64 0]) ?_ 0 _ rfl; (with_reducible repeat (first | refine blk_drewN ?_ _ | refine blk_drew ?_ | refine blk_alloc ?_ _)); exact BK231.out⟩, ⟨by repeat (first | (with_reducible first | exact HB.out | apply below_alloc | apply pw_below_drewN | apply below_drew1 | refine below_set ?_ GE210.out | refine below_set ?_ GE221.out | refine below_set ?_ GE231.out) | exact HB.out)⟩⟩
    case rest =>
      clear HC8
      try clear c1
      try clear c2
      try clear p2
      try clear c4
      try clear c5
      try clear c8
      try clear c9
      try clear c11
      try clear c13
      try clear c17
      try clear c18
      try clear c20
      try clear c20b0
      try clear c21
      try clear c22
      try clear c24
      try clear c26
      try clear c27
      try clear c29
      try clear hcz14_0
      try clear hcz14_1
      try clear hcz14_2
      try clear hcz14_3
      try clear hcz14_4
      try clear hcz14_5
      try clear hcz14_6
      try clear hcz14_7
      try clear hcz19_0
      try clear hcz19_1
      try clear hcz19_2
      try clear hcz19_3
      try clear hcz19_4
      try clear hcz19_5
      try clear hcz19_6
      try clear hcz19_7
      try clear hcz23_0
      try clear hcz23_1
      try clear hcz23_2
      try clear hcz23_3
      try clear hcz23_4
      try clear hcz23_5
      try clear hcz23_6
      try clear hcz23_7
      try clear hcz25_0
      try clear hcz25_1
      try clear hcz25_2
      try clear hcz25_3
      try clear hcz25_4
      try clear hcz25_5
      try clear hcz25_6
      try clear hcz25_7
      try clear hcz28_0
      try clear hcz28_1
      try clear hcz28_2
      try clear hcz28_3
      try clear hcz28_4
      try clear hcz28_5
      try clear hcz28_6
      try clear hcz28_7
      try clear hcz30_0
      try clear hcz30_1
      try clear hcz30_2
      try clear hcz30_3
      try clear hcz30_4
      try clear hcz30_5
      try clear hcz30_6
      try clear hcz30_7
      try clear hfz14_0
      try clear hfz14_1
      try clear hfz14_2
      try clear hfz14_3
      try clear hfz14_4
      try clear hfz14_5
      try clear hfz14_6
      try clear hfz14_7
      try clear hfz19_0
      try clear hfz19_1
      try clear hfz19_2
      try clear hfz19_3
      try clear hfz19_4
      try clear hfz19_5
      try clear hfz19_6
      try clear hfz19_7
      try clear hfz23_0
      try clear hfz23_1
      try clear hfz23_2
      try clear hfz23_3
      try clear hfz23_4
      try clear hfz23_5
      try clear hfz23_6
      try clear hfz23_7
      try clear hfz25_0
      try clear hfz25_1
      try clear hfz25_2
      try clear hfz25_3
      try clear hfz25_4
      try clear hfz25_5
      try clear hfz25_6
      try clear hfz25_7
      try clear hfz28_0
      try clear hfz28_1
      try clear hfz28_2
      try clear hfz28_3
      try clear hfz28_4
      try clear hfz28_5
      try clear hfz28_6
      try clear hfz28_7
      try clear hfz30_0
      try clear hfz30_1
      try clear hfz30_2
      try clear hfz30_3
      try clear hfz30_4
      try clear hfz30_5
      try clear hfz30_6
      try clear hfz30_7
      obtain ⟨kq, x40_7, rfl, HA, HJ7, BK210, BK221, BK231, HB⟩ := hcut
      cases kq with
      | zero => exact absurd HA.out (by simp [undercroftlaw06_GeomTells.j0])
      | succ kj7 =>
        have H := HA.out
        clear HA
        simp only [undercroftlaw06_GeomTells.j0] at H
        by_cases c31 : x40_7 = true
        · subst c31
          have H1 : (some false) = some r := by rw [if_pos rfl] at H; exact H
          clear H
          have H := H1
          clear H1
          exact absurd (Option.some.inj H) (by rw [hT]; decide)
        replace c31 := Bool.eq_false_iff.mpr c31
        subst c31
        have H1 : (if t220 = 0 then (undercroftlaw06_GeomTells.j1 kj7 a2 (decide (a1_0 < 0)) a1_0 a1_1 a1_2 a1_3 a1_4 a1_5 a1_6 a1_7 t212 t213 t214 t215 t216 t217 t218 t219) else (undercroftlaw06_GeomTells.j1 kj7 a2 false a1_0 a1_1 a1_2 a1_3 a1_4 a1_5 a1_6 a1_7 t212 t213 t214 t215 t216 t217 t218 t219)) = some r := by rw [if_neg (show ¬ (false = true) by decide)] at H; exact H
        clear H
        have H := H1
        clear H1
        have HC32 := Aside0.mk H
        clear H
        go_upto_region 7 with (fail)
        go_cut [47] (fun v47 wc => ∃ (kq : Nat) (x47_31 : Bool), v47 = .bool x47_31 ∧ Aside0 (undercroftlaw06_GeomTells.j1 kq a2 x47_31 a1_0 a1_1 a1_2 a1_3 a1_4 a1_5 a1_6 a1_7 t212 t213 t214 t215 t216 t217 t218 t219 = some r) ∧ Aside0 (kq ≤ kj7) ∧ Aside0 (wc.heap[gb210]? = some (.cells #[.int .i64 a1_0, .int .i64 a1_1, .int .i64 a1_2, .int .i64 a1_3, .int .i64 a1_4, .int .i64 a1_5, .int .i64 a1_6, .int .i64 a1_7] 24 (0, 0))) ∧ Aside0 (wc.heap[gb221]? = some (.cells #[.int .i64 t212, .int .i64 t213, .int .i64 t214, .int .i64 t215, .int .i64 t216, .int .i64 t217, .int .i64 t218, .int .i64 t219] 24 (0, 0))) ∧ Aside0 (wc.heap[gb231]? = some (.cells #[.int .i64 t222, .int .i64 t223, .int .i64 t224, .int .i64 t225, .int .i64 t226, .int .i64 t227, .int .i64 t228, .int .i64 t229] 24 (0, 0))) ∧ Aside0 (Below w.heap.size w wc))
        case first =>
          have H := HC32.out
          clear HC32
          by_cases c33 : t220 = 0
          rotate_left
          · rw [if_neg c33] at H
            have c33b0 : (t220 == 0) = false := beq_eq_false_iff_ne.mpr c33
            have c33b1 : (t220 != 0) = true := bne_iff_ne.mpr c33
            (first | rw [c33b0] | (simp only [i64_w, i32_w]; rw [c33b0]) | skip)
            have H' := Aside0.mk H
            clear H
            go_wp2
            go_meet
            case rel => exact ⟨_, (false), (by first | rfl | (simp; done) | (simp [*]; done)), H', ⟨by have := HJ7.out; first | omega | exact Nat.le_refl _⟩, ⟨by (with_reducible repeat (first | refine blk_drewN ?_ _ | refine blk_drew ?_ | refine blk_alloc ?_ _)); exact BK210.out⟩, ⟨by (with_reducible repeat (first | refine blk_drewN ?_ _ | refine blk_drew ?_ | refine blk_alloc ?_ _)); exact BK221.out⟩, ⟨by (with_reducible repeat (first | refine blk_drewN ?_ _ | refine blk_drew ?_ | refine blk_alloc ?_ _)); exact BK231.out⟩, ⟨by repeat (first | (with_reducible first | exact HB.out | apply below_alloc | apply pw_below_drewN | apply below_drew1 | refine below_set ?_ GE210.out | refine below_set ?_ GE221.out | refine below_set ?_ GE231.out) | exact HB.out)⟩⟩
          rw [if_pos c33] at H
          have c33b0 : (t220 == 0) = true := beq_iff_eq.mpr c33
          have c33b1 : (t220 != 0) = false := bne_eq_false_iff_eq.mpr c33
          clear c33
          (first | rw [c33b0] | (simp only [i64_w, i32_w]; rw [c33b0]) | skip)
          have H' := Aside0.mk H
          clear H
          have hnb34 := NB210_221.out
          have hnc34 := NB221_210.out
          have hnb35 := NB210_231.out
          have hnc35 := NB231_210.out
          have hcz36_0 : wc.cell? ⟨gb210, 0, none⟩ = some (.int .i64 a1_0) := (blk_cell BK210.out 0).trans rfl
          have hcz36_1 : wc.cell? ⟨gb210, 1, none⟩ = some (.int .i64 a1_1) := (blk_cell BK210.out 1).trans rfl
          have hcz36_2 : wc.cell? ⟨gb210, 2, none⟩ = some (.int .i64 a1_2) := (blk_cell BK210.out 2).trans rfl
          have hcz36_3 : wc.cell? ⟨gb210, 3, none⟩ = some (.int .i64 a1_3) := (blk_cell BK210.out 3).trans rfl
          have hcz36_4 : wc.cell? ⟨gb210, 4, none⟩ = some (.int .i64 a1_4) := (blk_cell BK210.out 4).trans rfl
          have hcz36_5 : wc.cell? ⟨gb210, 5, none⟩ = some (.int .i64 a1_5) := (blk_cell BK210.out 5).trans rfl
          have hcz36_6 : wc.cell? ⟨gb210, 6, none⟩ = some (.int .i64 a1_6) := (blk_cell BK210.out 6).trans rfl
          have hcz36_7 : wc.cell? ⟨gb210, 7, none⟩ = some (.int .i64 a1_7) := (blk_cell BK210.out 7).trans rfl
          have hfz36_0 := blk_frozen BK210.out 0
          have hfz36_1 := blk_frozen BK210.out 1
          have hfz36_2 := blk_frozen BK210.out 2
          have hfz36_3 := blk_frozen BK210.out 3
          have hfz36_4 := blk_frozen BK210.out 4
          have hfz36_5 := blk_frozen BK210.out 5
          have hfz36_6 := blk_frozen BK210.out 6
          have hfz36_7 := blk_frozen BK210.out 7
          go_wp2
          go_meet
          case rel => exact ⟨_, (decide (a1_0 < 0)), (by first | rfl | (simp; done) | (simp [*]; done)), H', ⟨by have := HJ7.out; first | omega | exact Nat.le_refl _⟩, ⟨by (with_reducible repeat (first | refine blk_drewN ?_ _ | refine blk_drew ?_ | refine blk_alloc ?_ _)); exact BK210.out⟩, ⟨by (with_reducible repeat (first | refine blk_drewN ?_ _ | refine blk_drew ?_ | refine blk_alloc ?_ _)); exact BK221.out⟩, ⟨by (with_reducible repeat (first | refine blk_drewN ?_ _ | refine blk_drew ?_ | refine blk_alloc ?_ _)); exact BK231.out⟩, ⟨by repeat (first | (with_reducible first | exact HB.out | apply below_alloc | apply pw_below_drewN | apply below_drew1 | refine below_set ?_ GE210.out | refine below_set ?_ GE221.out | refine below_set ?_ GE231.out) | exact HB.out)⟩⟩
        case rest =>
          clear HC32
          try clear c1
          try clear c2
          try clear p2
          try clear c3
          try clear c4
          try clear c5
          try clear c8
          try clear c9
          try clear c11
          try clear c13
          try clear c17
          try clear c18
          try clear c20
          try clear c20b0
          try clear c21
          try clear c22
          try clear c24
          try clear c26
          try clear c27
          try clear c29
          try clear c31
          try clear c33
          try clear c33b0
          try clear c33b1
          try clear c34
          try clear c35
          try clear hcz14_0
          try clear hcz14_1
          try clear hcz14_2
          try clear hcz14_3
          try clear hcz14_4
          try clear hcz14_5
          try clear hcz14_6
          try clear hcz14_7
          try clear hcz19_0
          try clear hcz19_1
          try clear hcz19_2
          try clear hcz19_3
          try clear hcz19_4
          try clear hcz19_5
          try clear hcz19_6
          try clear hcz19_7
          try clear hcz23_0
          try clear hcz23_1
          try clear hcz23_2
          try clear hcz23_3
          try clear hcz23_4
          try clear hcz23_5
          try clear hcz23_6
          try clear hcz23_7
          try clear hcz25_0
          try clear hcz25_1
          try clear hcz25_2
          try clear hcz25_3
          try clear hcz25_4
          try clear hcz25_5
          try clear hcz25_6
          try clear hcz25_7
          try clear hcz28_0
          try clear hcz28_1
          try clear hcz28_2
          try clear hcz28_3
          try clear hcz28_4
          try clear hcz28_5
          try clear hcz28_6
          try clear hcz28_7
          try clear hcz30_0
          try clear hcz30_1
          try clear hcz30_2
          try clear hcz30_3
          try clear hcz30_4
          try clear hcz30_5
          try clear hcz30_6
          try clear hcz30_7
          try clear hcz36_0
          try clear hcz36_1
          try clear hcz36_2
          try clear hcz36_3
          try clear hcz36_4
          try clear hcz36_5
          try clear hcz36_6
          try clear hcz36_7
          try clear hfz14_0
          try clear hfz14_1
          try clear hfz14_2
          try clear hfz14_3
          try clear hfz14_4
          try clear hfz14_5
          try clear hfz14_6
          try clear hfz14_7
          try clear hfz19_0
          try clear hfz19_1
          try clear hfz19_2
          try clear hfz19_3
          try clear hfz19_4
          try clear hfz19_5
          try clear hfz19_6
          try clear hfz19_7
          try clear hfz23_0
          try clear hfz23_1
          try clear hfz23_2
          try clear hfz23_3
          try clear hfz23_4
          try clear hfz23_5
          try clear hfz23_6
          try clear hfz23_7
          try clear hfz25_0
          try clear hfz25_1
          try clear hfz25_2
          try clear hfz25_3
          try clear hfz25_4
          try clear hfz25_5
          try clear hfz25_6
          try clear hfz25_7
          try clear hfz28_0
          try clear hfz28_1
          try clear hfz28_2
          try clear hfz28_3
          try clear hfz28_4
          try clear hfz28_5
          try clear hfz28_6
          try clear hfz28_7
          try clear hfz30_0
          try clear hfz30_1
          try clear hfz30_2
          try clear hfz30_3
          try clear hfz30_4
          try clear hfz30_5
          try clear hfz30_6
          try clear hfz30_7
          try clear hfz36_0
          try clear hfz36_1
          try clear hfz36_2
          try clear hfz36_3
          try clear hfz36_4
          try clear hfz36_5
          try clear hfz36_6
          try clear hfz36_7
          try clear p2
          obtain ⟨kq, x47_31, rfl, HA, HJ31, BK210, BK221, BK231, HB⟩ := hcut
          cases kq with
          | zero => exact absurd HA.out (by simp [undercroftlaw06_GeomTells.j1])
          | succ kj31 =>
            have H := HA.out
            clear HA
            simp only [undercroftlaw06_GeomTells.j1] at H
            have HC37 := Aside0.mk H
            clear H
            go_upto_if 47 with (fail)
            go_cut [] (fun wc => ∃ (kq : Nat) (x211000_36 : Int) (x211001_36 : Int) (x211002_36 : Int) (x211003_36 : Int) (x211004_36 : Int) (x211005_36 : Int) (x211006_36 : Int) (x211007_36 : Int), Aside0 (undercroftlaw06_GeomTells.j2 kq a2 x211000_36 x211001_36 x211002_36 x211003_36 x211004_36 x211005_36 x211006_36 x211007_36 = some r) ∧ Aside0 (kq ≤ kj31) ∧ Aside0 (wc.heap[gb210]? = some (.cells #[.int .i64 x211000_36, .int .i64 x211001_36, .int .i64 x211002_36, .int .i64 x211003_36, .int .i64 x211004_36, .int .i64 x211005_36, .int .i64 x211006_36, .int .i64 x211007_36] 24 (0, 0))) ∧ Aside0 (wc.heap[gb221]? = some (.cells #[.int .i64 t212, .int .i64 t213, .int .i64 t214, .int .i64 t215, .int .i64 t216, .int .i64 t217, .int .i64 t218, .int .i64 t219] 24 (0, 0))) ∧ Aside0 (wc.heap[gb231]? = some (.cells #[.int .i64 t222, .int .i64 t223, .int .i64 t224, .int .i64 t225, .int .i64 t226, .int .i64 t227, .int .i64 t228, .int .i64 t229] 24 (0, 0))) ∧ Aside0 (Below w.heap.size w wc))
            case first =>
              have H := HC37.out
              clear HC37
              by_cases c38 : x47_31 = true
              rotate_left
              · replace c38 := Bool.eq_false_iff.mpr c38
                subst c38
                have H1 : (undercroftlaw06_GeomTells.j2 kj31 a2 a1_0 a1_1 a1_2 a1_3 a1_4 a1_5 a1_6 a1_7) = some r := by rw [if_neg (show ¬ (false = true) by decide)] at H; exact H
                clear H
                have H := H1
                clear H1
                have H' := Aside0.mk H
                clear H
                go_wp2
                go_meet
                case rel => exact ⟨_, (a1_0), (a1_1), (a1_2), (a1_3), (a1_4), (a1_5), (a1_6), (a1_7), H', ⟨by have := HJ7.out; have := HJ31.out; first | omega | exact Nat.le_refl _⟩, ⟨by (with_reducible repeat (first | refine blk_drewN ?_ _ | refine blk_drew ?_ | refine blk_alloc ?_ _)); exact BK210.out⟩, ⟨by (with_reducible repeat (first | refine blk_drewN ?_ _ | refine blk_drew ?_ | refine blk_alloc ?_ _)); exact BK221.out⟩, ⟨by (with_reducible repeat (first | refine blk_drewN ?_ _ | refine blk_drew ?_ | refine blk_alloc ?_ _)); exact BK231.out⟩, ⟨by repeat (first | (with_reducible first | exact HB.out | apply below_alloc | apply pw_below_drewN | apply below_drew1 | refine below_set ?_ GE210.out | refine below_set ?_ GE221.out | refine below_set ?_ GE231.out) | exact HB.out)⟩⟩
              subst c38
              have H1 : (undercroftlaw06_GeomTells.j2 kj31 a2 t212 t213 t214 t215 t216 t217 t218 t219) = some r := by rw [if_pos rfl] at H; exact H
              clear H
              have H := H1
              clear H1
              have H' := Aside0.mk H
              clear H
              have hnb39 := NB221_210.out
              have hnc39 := NB210_221.out
              have hnb40 := NB221_231.out
              have hnc40 := NB231_221.out
              have hcz41_0 : wc.cell? ⟨gb221, 0, none⟩ = some (.int .i64 t212) := (blk_cell BK221.out 0).trans rfl
              have hcz41_1 : wc.cell? ⟨gb221, 1, none⟩ = some (.int .i64 t213) := (blk_cell BK221.out 1).trans rfl
              have hcz41_2 : wc.cell? ⟨gb221, 2, none⟩ = some (.int .i64 t214) := (blk_cell BK221.out 2).trans rfl
              have hcz41_3 : wc.cell? ⟨gb221, 3, none⟩ = some (.int .i64 t215) := (blk_cell BK221.out 3).trans rfl
              have hcz41_4 : wc.cell? ⟨gb221, 4, none⟩ = some (.int .i64 t216) := (blk_cell BK221.out 4).trans rfl
              have hcz41_5 : wc.cell? ⟨gb221, 5, none⟩ = some (.int .i64 t217) := (blk_cell BK221.out 5).trans rfl
              have hcz41_6 : wc.cell? ⟨gb221, 6, none⟩ = some (.int .i64 t218) := (blk_cell BK221.out 6).trans rfl
              have hcz41_7 : wc.cell? ⟨gb221, 7, none⟩ = some (.int .i64 t219) := (blk_cell BK221.out 7).trans rfl
              have hfz41_0 := blk_frozen BK221.out 0
              have hfz41_1 := blk_frozen BK221.out 1
              have hfz41_2 := blk_frozen BK221.out 2
              have hfz41_3 := blk_frozen BK221.out 3
              have hfz41_4 := blk_frozen BK221.out 4
              have hfz41_5 := blk_frozen BK221.out 5
              have hfz41_6 := blk_frozen BK221.out 6
              have hfz41_7 := blk_frozen BK221.out 7
              have hnb42 := NB210_231.out
              have hnc42 := NB231_210.out
              have hcz43_0 : wc.cell? ⟨gb210, 0, none⟩ = some (.int .i64 a1_0) := (blk_cell BK210.out 0).trans rfl
              have hcz43_1 : wc.cell? ⟨gb210, 1, none⟩ = some (.int .i64 a1_1) := (blk_cell BK210.out 1).trans rfl
              have hcz43_2 : wc.cell? ⟨gb210, 2, none⟩ = some (.int .i64 a1_2) := (blk_cell BK210.out 2).trans rfl
              have hcz43_3 : wc.cell? ⟨gb210, 3, none⟩ = some (.int .i64 a1_3) := (blk_cell BK210.out 3).trans rfl
              have hcz43_4 : wc.cell? ⟨gb210, 4, none⟩ = some (.int .i64 a1_4) := (blk_cell BK210.out 4).trans rfl
              have hcz43_5 : wc.cell? ⟨gb210, 5, none⟩ = some (.int .i64 a1_5) := (blk_cell BK210.out 5).trans rfl
              have hcz43_6 : wc.cell? ⟨gb210, 6, none⟩ = some (.int .i64 a1_6) := (blk_cell BK210.out 6).trans rfl
              have hcz43_7 : wc.cell? ⟨gb210, 7, none⟩ = some (.int .i64 a1_7) := (blk_cell BK210.out 7).trans rfl
              have hfz43_0 := blk_frozen BK210.out 0
              have hfz43_1 := blk_frozen BK210.out 1
              have hfz43_2 := blk_frozen BK210.out 2
              have hfz43_3 := blk_frozen BK210.out 3
              have hfz43_4 := blk_frozen BK210.out 4
              have hfz43_5 := blk_frozen BK210.out 5
              have hfz43_6 := blk_frozen BK210.out 6
              have hfz43_7 := blk_frozen BK210.out 7
              go_wp2
              go_meet
              case rel => exact ⟨_, (t212), (t213), (t214), (t215), (t216), (t217), (t218), (t219), H', ⟨by have := HJ7.out; have := HJ31.out; first | omega | exact Nat.le_refl _⟩, ⟨by (with_reducible repeat (first | refine blk_drewN ?_ _ | refine blk_drew ?_ | refine blk_alloc ?_ _)); refine blk_put (cs := #[.int .i64 t212, .int .i64 t213, .int .i64 t214, .int .i64 t215, .int .i64 t216, .int .i64 t217, .int .i64 t218, .int .i64 a1_7]) ?_ 7 _ rfl; (with_reducible repeat (first | refine blk_drewN ?_ _ | refine blk_drew ?_ | refine blk_alloc ?_ _)); refine blk_put (cs := #[.int .i64 t212, .int .i64 t213, .int .i64 t214, .int .i64 t215, .int .i64 t216, .int .i64 t217, .int .i64 a1_6, .int .i64 a1_7]) ?_ 6 _ rfl; (with_reducible repeat (first | refine blk_drewN ?_ _ | refine blk_drew ?_ | refine blk_alloc ?_ _)); refine blk_put (cs := #[.int .i64 t212, .int .i64 t213, .int .i64 t214, .int .i64 t215, .int .i64 t216, .int .i64 a1_5, .int .i64 a1_6, .int .i64 a1_7]) ?_ 5 _ rfl; (with_reducible repeat (first | refine blk_drewN ?_ _ | refine blk_drew ?_ | refine blk_alloc ?_ _)); refine blk_put (cs := #[.int .i64 t212, .int .i64 t213, .int .i64 t214, .int .i64 t215, .int .i64 a1_4, .int .i64 a1_5, .int .i64 a1_6, .int .i64 a1_7]) ?_ 4 _ rfl; (with_reducible repeat (first | refine blk_drewN ?_ _ | refine blk_drew ?_ | refine blk_alloc ?_ _)); refine blk_put (cs := #[.int .i64 t212, .int .i64 t213, .int .i64 t214, .int .i64 a1_3, .int .i64 a1_4, .int .i64 a1_5, .int .i64 a1_6, .int .i64 a1_7]) ?_ 3 _ rfl; (with_reducible repeat (first | refine blk_drewN ?_ _ | refine blk_drew ?_ | refine blk_alloc ?_ _)); refine blk_put (cs := #[.int .i64 t212, .int .i64 t213, .int .i64 a1_2, .int .i64 a1_3, .int .i64 a1_4, .int .i64 a1_5, .int .i64 a1_6, .int .i64 a1_7]) ?_ 2 _ rfl; (with_reducible repeat (first | refine blk_drewN ?_ _ | refine blk_drew ?_ | refine blk_alloc ?_ _)); refine blk_put (cs := #[.int .i64 t212, .int .i64 a1_1, .int .i64 a1_2, .int .i64 a1_3, .int .i64 a1_4, .int .i64 a1_5, .int .i64 a1_6, .int .i64 a1_7]) ?_ 1 _ rfl; (with_reducible repeat (first | refine blk_drewN ?_ _ | refine blk_drew ?_ | refine blk_alloc ?_ _)); refine blk_put (cs := #[.int .i64 a1_0, .int .i64 a1_1, .int .i64 a1_2, .int .i64 a1_3, .int .i64 a1_4, .int .i64 a1_5, .int .i64 a1_6, .int .i64 a1_7]) ?_ 0 _ rfl; (with_reducible repeat (first | refine blk_drewN ?_ _ | refine blk_drew ?_ | refine blk_alloc ?_ _)); exact BK210.out⟩, ⟨by (with_reducible repeat (first | refine blk_drewN ?_ _ | refine blk_drew ?_ | refine blk_alloc ?_ _)); refine blk_far ?_ NB221_210.out _; (with_reducible repeat (first | refine blk_drewN ?_ _ | refine blk_drew ?_ | refine blk_alloc ?_ _)); refine blk_far ?_ NB221_210.out _; (with_reducible repeat (first | refine blk_drewN ?_ _ | refine blk_drew ?_ | refine blk_alloc ?_ _)); refine blk_far ?_ NB221_210.out _; (with_reducible repeat (first | refine blk_drewN ?_ _ | refine blk_drew ?_ | refine blk_alloc ?_ _)); refine blk_far ?_ NB221_210.out _; (with_reducible repeat (first | refine blk_drewN ?_ _ | refine blk_drew ?_ | refine blk_alloc ?_ _)); refine blk_far ?_ NB221_210.out _; (with_reducible repeat (first | refine blk_drewN ?_ _ | refine blk_drew ?_ | refine blk_alloc ?_ _)); refine blk_far ?_ NB221_210.out _; (with_reducible repeat (first | refine blk_drewN ?_ _ | refine blk_drew ?_ | refine blk_alloc ?_ _)); refine blk_far ?_ NB221_210.out _; (with_reducible repeat (first | refine blk_drewN ?_ _ | refine blk_drew ?_ | refine blk_alloc ?_ _)); refine blk_far ?_ NB221_210.out _; (with_reducible repeat (first | refine blk_drewN ?_ _ | refine blk_drew ?_ | refine blk_alloc ?_ _)); exact BK221.out⟩, ⟨by (with_reducible repeat (first | refine blk_drewN ?_ _ | refine blk_drew ?_ | refine blk_alloc ?_ _)); refine blk_far ?_ NB231_210.out _; (with_reducible repeat (first | refine blk_drewN ?_ _ | refine blk_drew ?_ | refine blk_alloc ?_ _)); refine blk_far ?_ NB231_210.out _; (with_reducible repeat (first | refine blk_drewN ?_ _ | refine blk_drew ?_ | refine blk_alloc ?_ _)); refine blk_far ?_ NB231_210.out _; (with_reducible repeat (first | refine blk_drewN ?_ _ | refine blk_drew ?_ | refine blk_alloc ?_ _)); refine blk_far ?_ NB231_210.out _; (with_reducible repeat (first | refine blk_drewN ?_ _ | refine blk_drew ?_ | refine blk_alloc ?_ _)); refine blk_far ?_ NB231_210.out _; (with_reducible repeat (first | refine blk_drewN ?_ _ | refine blk_drew ?_ | refine blk_alloc ?_ _)); refine blk_far ?_ NB231_210.out _; (with_reducible repeat (first | refine blk_drewN ?_ _ | refine blk_drew ?_ | refine blk_alloc ?_ _)); refine blk_far ?_ NB231_210.out _; (with_reducible repeat (first | refine blk_drewN ?_ _ | refine blk_drew ?_ | refine blk_alloc ?_ _)); refine blk_far ?_ NB231_210.out _; (with_reducible repeat (first | refine blk_drewN ?_ _ | refine blk_drew ?_ | refine blk_alloc ?_ _)); exact BK231.out⟩, ⟨by repeat (first | (with_reducible first | exact HB.out | apply below_alloc | apply pw_below_drewN | apply below_drew1 | refine below_set ?_ GE210.out | refine below_set ?_ GE221.out | refine below_set ?_ GE231.out) | exact HB.out)⟩⟩
            case rest =>
              clear HC37
              try clear c1
              try clear c2
              try clear p2
              try clear c3
              try clear c4
              try clear c5
              try clear c8
              try clear c9
              try clear c11
              try clear c13
              try clear c17
              try clear c18
              try clear c20
              try clear c20b0
              try clear c21
              try clear c22
              try clear c24
              try clear c26
              try clear c27
              try clear c29
              try clear c31
              try clear c33
              try clear c33b0
              try clear c33b1
              try clear c34
              try clear c35
              try clear c38
              try clear c39
              try clear c40
              try clear c42
              try clear hcz14_0
              try clear hcz14_1
              try clear hcz14_2
              try clear hcz14_3
              try clear hcz14_4
              try clear hcz14_5
              try clear hcz14_6
              try clear hcz14_7
              try clear hcz19_0
              try clear hcz19_1
              try clear hcz19_2
              try clear hcz19_3
              try clear hcz19_4
              try clear hcz19_5
              try clear hcz19_6
              try clear hcz19_7
              try clear hcz23_0
              try clear hcz23_1
              try clear hcz23_2
              try clear hcz23_3
              try clear hcz23_4
              try clear hcz23_5
              try clear hcz23_6
              try clear hcz23_7
              try clear hcz25_0
              try clear hcz25_1
              try clear hcz25_2
              try clear hcz25_3
              try clear hcz25_4
              try clear hcz25_5
              try clear hcz25_6
              try clear hcz25_7
              try clear hcz28_0
              try clear hcz28_1
              try clear hcz28_2
              try clear hcz28_3
              try clear hcz28_4
              try clear hcz28_5
              try clear hcz28_6
              try clear hcz28_7
              try clear hcz30_0
              try clear hcz30_1
              try clear hcz30_2
              try clear hcz30_3
              try clear hcz30_4
              try clear hcz30_5
              try clear hcz30_6
              try clear hcz30_7
              try clear hcz36_0
              try clear hcz36_1
              try clear hcz36_2
              try clear hcz36_3
              try clear hcz36_4
              try clear hcz36_5
              try clear hcz36_6
              try clear hcz36_7
              try clear hcz41_0
              try clear hcz41_1
              try clear hcz41_2
              try clear hcz41_3
              try clear hcz41_4
              try clear hcz41_5
              try clear hcz41_6
              try clear hcz41_7
              try clear hcz43_0
              try clear hcz43_1
              try clear hcz43_2
              try clear hcz43_3
              try clear hcz43_4
              try clear hcz43_5
              try clear hcz43_6
              try clear hcz43_7
              try clear hfz14_0
              try clear hfz14_1
              try clear hfz14_2
              try clear hfz14_3
              try clear hfz14_4
              try clear hfz14_5
              try clear hfz14_6
              try clear hfz14_7
              try clear hfz19_0
              try clear hfz19_1
              try clear hfz19_2
              try clear hfz19_3
              try clear hfz19_4
              try clear hfz19_5
              try clear hfz19_6
              try clear hfz19_7
              try clear hfz23_0
              try clear hfz23_1
              try clear hfz23_2
              try clear hfz23_3
              try clear hfz23_4
              try clear hfz23_5
              try clear hfz23_6
              try clear hfz23_7
              try clear hfz25_0
              try clear hfz25_1
              try clear hfz25_2
              try clear hfz25_3
              try clear hfz25_4
              try clear hfz25_5
              try clear hfz25_6
              try clear hfz25_7
              try clear hfz28_0
              try clear hfz28_1
              try clear hfz28_2
              try clear hfz28_3
              try clear hfz28_4
              try clear hfz28_5
              try clear hfz28_6
              try clear hfz28_7
              try clear hfz30_0
              try clear hfz30_1
              try clear hfz30_2
              try clear hfz30_3
              try clear hfz30_4
              try clear hfz30_5
              try clear hfz30_6
              try clear hfz30_7
              try clear hfz36_0
              try clear hfz36_1
              try clear hfz36_2
              try clear hfz36_3
              try clear hfz36_4
              try clear hfz36_5
              try clear hfz36_6
              try clear hfz36_7
              try clear hfz41_0
              try clear hfz41_1
              try clear hfz41_2
              try clear hfz41_3
              try clear hfz41_4
              try clear hfz41_5
              try clear hfz41_6
              try clear hfz41_7
              try clear hfz43_0
              try clear hfz43_1
              try clear hfz43_2
              try clear hfz43_3
              try clear hfz43_4
              try clear hfz43_5
              try clear hfz43_6
              try clear hfz43_7
              try clear p2
              obtain ⟨kq, x211000_36, x211001_36, x211002_36, x211003_36, x211004_36, x211005_36, x211006_36, x211007_36, HA, HJ36, BK210, BK221, BK231, HB⟩ := hcut
              cases kq with
              | zero => exact absurd HA.out (by simp [undercroftlaw06_GeomTells.j2])
              | succ kj36 =>
                have H := HA.out
                clear HA
                simp only [undercroftlaw06_GeomTells.j2] at H
                replace H := Option.bind_eq_some_iff.mp H
                obtain ⟨⟨t232, t235⟩, A440, H⟩ := H
                replace H : ((undercroftref06_Encode.f kj36 x211000_36 x211001_36 x211002_36 x211003_36 x211004_36 x211005_36 x211006_36 x211007_36).bind fun bt236 => ((geom_Inode.f x211000_36 x211001_36 x211002_36 x211003_36 x211004_36 x211005_36 x211006_36 x211007_36 a2).bind fun bt240 => ((undercroftref06_Inode.f x211000_36 x211001_36 x211002_36 x211003_36 x211004_36 x211005_36 x211006_36 x211007_36 a2).bind fun bt243 => (if (strOfNums t232).toList = (strOfNums bt236.1).toList then (if t235 = bt236.2 then (if bt240.1 = bt243.1 then (if bt240.2.1 = bt243.2.1 then (if bt240.2.2 = bt243.2.2 then ((geom_Where.f x211000_36 x211001_36 x211002_36 x211003_36 x211004_36 x211005_36 x211006_36 x211007_36 a2).bind fun t246 => ((undercroftref06_Where.f kj36 x211000_36 x211001_36 x211002_36 x211003_36 x211004_36 x211005_36 x211006_36 x211007_36 a2).bind fun t247 => (some (t246 == t247)))) else (some false)) else (some false)) else (some false)) else (some false)) else (some false))))) = some r := H
                have A44 := Aside0.mk A440
                clear A440
                replace H := Option.bind_eq_some_iff.mp H
                obtain ⟨⟨t236, t239⟩, A450, H⟩ := H
                replace H : ((geom_Inode.f x211000_36 x211001_36 x211002_36 x211003_36 x211004_36 x211005_36 x211006_36 x211007_36 a2).bind fun bt240 => ((undercroftref06_Inode.f x211000_36 x211001_36 x211002_36 x211003_36 x211004_36 x211005_36 x211006_36 x211007_36 a2).bind fun bt243 => (if (strOfNums t232).toList = (strOfNums t236).toList then (if t235 = t239 then (if bt240.1 = bt243.1 then (if bt240.2.1 = bt243.2.1 then (if bt240.2.2 = bt243.2.2 then ((geom_Where.f x211000_36 x211001_36 x211002_36 x211003_36 x211004_36 x211005_36 x211006_36 x211007_36 a2).bind fun t246 => ((undercroftref06_Where.f kj36 x211000_36 x211001_36 x211002_36 x211003_36 x211004_36 x211005_36 x211006_36 x211007_36 a2).bind fun t247 => (some (t246 == t247)))) else (some false)) else (some false)) else (some false)) else (some false)) else (some false)))) = some r := H
                have A45 := Aside0.mk A450
                clear A450
                replace H := Option.bind_eq_some_iff.mp H
                obtain ⟨⟨t240, t241, t242⟩, A460, H⟩ := H
                replace H : ((undercroftref06_Inode.f x211000_36 x211001_36 x211002_36 x211003_36 x211004_36 x211005_36 x211006_36 x211007_36 a2).bind fun bt243 => (if (strOfNums t232).toList = (strOfNums t236).toList then (if t235 = t239 then (if t240 = bt243.1 then (if t241 = bt243.2.1 then (if t242 = bt243.2.2 then ((geom_Where.f x211000_36 x211001_36 x211002_36 x211003_36 x211004_36 x211005_36 x211006_36 x211007_36 a2).bind fun t246 => ((undercroftref06_Where.f kj36 x211000_36 x211001_36 x211002_36 x211003_36 x211004_36 x211005_36 x211006_36 x211007_36 a2).bind fun t247 => (some (t246 == t247)))) else (some false)) else (some false)) else (some false)) else (some false)) else (some false))) = some r := H
                have A46 := Aside0.mk A460
                clear A460
                replace H := Option.bind_eq_some_iff.mp H
                obtain ⟨⟨t243, t244, t245⟩, A470, H⟩ := H
                replace H : (if (strOfNums t232).toList = (strOfNums t236).toList then (if t235 = t239 then (if t240 = t243 then (if t241 = t244 then (if t242 = t245 then ((geom_Where.f x211000_36 x211001_36 x211002_36 x211003_36 x211004_36 x211005_36 x211006_36 x211007_36 a2).bind fun t246 => ((undercroftref06_Where.f kj36 x211000_36 x211001_36 x211002_36 x211003_36 x211004_36 x211005_36 x211006_36 x211007_36 a2).bind fun t247 => (some (t246 == t247)))) else (some false)) else (some false)) else (some false)) else (some false)) else (some false)) = some r := H
                have A47 := Aside0.mk A470
                clear A470
                by_cases c48 : (strOfNums t232).toList = (strOfNums t236).toList
                rotate_left
                · rw [if_neg c48] at H
                  have c48b0 : ((strOfNums t232).toList == (strOfNums t236).toList) = false := beq_eq_false_iff_ne.mpr c48
                  have c48b1 : ((strOfNums t232).toList != (strOfNums t236).toList) = true := bne_iff_ne.mpr c48
                  exact absurd (Option.some.inj H) (by rw [hT]; decide)
                rw [if_pos c48] at H
                have c48b0 : ((strOfNums t232).toList == (strOfNums t236).toList) = true := beq_iff_eq.mpr c48
                have c48b1 : ((strOfNums t232).toList != (strOfNums t236).toList) = false := bne_eq_false_iff_eq.mpr c48
                clear c48
                by_cases c49 : t235 = t239
                rotate_left
                · rw [if_neg c49] at H
                  have c49b0 : (t235 == t239) = false := beq_eq_false_iff_ne.mpr c49
                  have c49b1 : (t235 != t239) = true := bne_iff_ne.mpr c49
                  exact absurd (Option.some.inj H) (by rw [hT]; decide)
                rw [if_pos c49] at H
                have c49b0 : (t235 == t239) = true := beq_iff_eq.mpr c49
                have c49b1 : (t235 != t239) = false := bne_eq_false_iff_eq.mpr c49
                clear c49
                by_cases c50 : t240 = t243
                rotate_left
                · rw [if_neg c50] at H
                  have c50b0 : (t240 == t243) = false := beq_eq_false_iff_ne.mpr c50
                  have c50b1 : (t240 != t243) = true := bne_iff_ne.mpr c50
                  exact absurd (Option.some.inj H) (by rw [hT]; decide)
                rw [if_pos c50] at H
                have c50b0 : (t240 == t243) = true := beq_iff_eq.mpr c50
                have c50b1 : (t240 != t243) = false := bne_eq_false_iff_eq.mpr c50
                clear c50
                by_cases c51 : t241 = t244
                rotate_left
                · rw [if_neg c51] at H
                  have c51b0 : (t241 == t244) = false := beq_eq_false_iff_ne.mpr c51
                  have c51b1 : (t241 != t244) = true := bne_iff_ne.mpr c51
                  exact absurd (Option.some.inj H) (by rw [hT]; decide)
                rw [if_pos c51] at H
                have c51b0 : (t241 == t244) = true := beq_iff_eq.mpr c51
                have c51b1 : (t241 != t244) = false := bne_eq_false_iff_eq.mpr c51
                clear c51
                by_cases c52 : t242 = t245
                rotate_left
                · rw [if_neg c52] at H
                  have c52b0 : (t242 == t245) = false := beq_eq_false_iff_ne.mpr c52
                  have c52b1 : (t242 != t245) = true := bne_iff_ne.mpr c52
                  exact absurd (Option.some.inj H) (by rw [hT]; decide)
                rw [if_pos c52] at H
                have c52b0 : (t242 == t245) = true := beq_iff_eq.mpr c52
                have c52b1 : (t242 != t245) = false := bne_eq_false_iff_eq.mpr c52
                clear c52
                replace H := Option.bind_eq_some_iff.mp H
                obtain ⟨t246, A530, H⟩ := H
                replace H : ((undercroftref06_Where.f kj36 x211000_36 x211001_36 x211002_36 x211003_36 x211004_36 x211005_36 x211006_36 x211007_36 a2).bind fun t247 => (some (t246 == t247))) = some r := H
                have A53 := Aside0.mk A530
                clear A530
                replace H := Option.bind_eq_some_iff.mp H
                obtain ⟨t247, A540, H⟩ := H
                replace H : (some (t246 == t247)) = some r := H
                have A54 := Aside0.mk A540
                clear A540
                obtain rfl := Option.some.inj H
                have hnb55 := NB210_221.out
                have hnc55 := NB221_210.out
                have hnb56 := NB210_231.out
                have hnc56 := NB231_210.out
                have hcz57_0 : wc.cell? ⟨gb210, 0, none⟩ = some (.int .i64 x211000_36) := (blk_cell BK210.out 0).trans rfl
                have hcz57_1 : wc.cell? ⟨gb210, 1, none⟩ = some (.int .i64 x211001_36) := (blk_cell BK210.out 1).trans rfl
                have hcz57_2 : wc.cell? ⟨gb210, 2, none⟩ = some (.int .i64 x211002_36) := (blk_cell BK210.out 2).trans rfl
                have hcz57_3 : wc.cell? ⟨gb210, 3, none⟩ = some (.int .i64 x211003_36) := (blk_cell BK210.out 3).trans rfl
                have hcz57_4 : wc.cell? ⟨gb210, 4, none⟩ = some (.int .i64 x211004_36) := (blk_cell BK210.out 4).trans rfl
                have hcz57_5 : wc.cell? ⟨gb210, 5, none⟩ = some (.int .i64 x211005_36) := (blk_cell BK210.out 5).trans rfl
                have hcz57_6 : wc.cell? ⟨gb210, 6, none⟩ = some (.int .i64 x211006_36) := (blk_cell BK210.out 6).trans rfl
                have hcz57_7 : wc.cell? ⟨gb210, 7, none⟩ = some (.int .i64 x211007_36) := (blk_cell BK210.out 7).trans rfl
                have hfz57_0 := blk_frozen BK210.out 0
                have hfz57_1 := blk_frozen BK210.out 1
                have hfz57_2 := blk_frozen BK210.out 2
                have hfz57_3 := blk_frozen BK210.out 3
                have hfz57_4 := blk_frozen BK210.out 4
                have hfz57_5 := blk_frozen BK210.out 5
                have hfz57_6 := blk_frozen BK210.out 6
                have hfz57_7 := blk_frozen BK210.out 7
                try go_wp2_with (first | ((with_reducible refine gate_callee (f := 10) rfl ?_); refine goesL_ (some 51) rfl rfl Try.func10 (by kernel_rfl) rfl #[.agg #[.int .i64 x211000_36, .int .i64 x211001_36, .int .i64 x211002_36, .int .i64 x211003_36, .int .i64 x211004_36, .int .i64 x211005_36, .int .i64 x211006_36, .int .i64 x211007_36]] rfl (by (try simp only [List.map_toArray, List.map_cons, List.map_nil]); first | done | rfl | (simp only [List.length_drop, List.length_take]; rfl)) ?_; (with_reducible refine (geom_Encode.calls x211000_36 x211001_36 x211002_36 x211003_36 x211004_36 x211005_36 x211006_36 x211007_36 t232 t235 _ A44.out).mono ?_); rintro e w58 ⟨v233, rfl, ho0, hb⟩; refine ⟨_, rfl, ?_⟩; have n0_ := Aside0.mk (Kd.R_lower ho0 (below_size (by repeat (first | (with_reducible first | exact HB.out | apply below_alloc | apply pw_below_drewN | apply below_drew1 | refine below_set ?_ GE210.out | refine below_set ?_ GE221.out | refine below_set ?_ GE231.out) | exact HB.out)))); have n1_ := Aside0.mk (blk_below (g := gb210) (o := .cells #[.int .i64 x211000_36, .int .i64 x211001_36, .int .i64 x211002_36, .int .i64 x211003_36, .int .i64 x211004_36, .int .i64 x211005_36, .int .i64 x211006_36, .int .i64 x211007_36] 24 (0, 0)) (by (with_reducible repeat (first | refine blk_drewN ?_ _ | refine blk_drew ?_ | refine blk_alloc ?_ _)); exact BK210.out) hb); have n2_ := Aside0.mk (blk_below (g := gb221) (o := .cells #[.int .i64 t212, .int .i64 t213, .int .i64 t214, .int .i64 t215, .int .i64 t216, .int .i64 t217, .int .i64 t218, .int .i64 t219] 24 (0, 0)) (by (with_reducible repeat (first | refine blk_drewN ?_ _ | refine blk_drew ?_ | refine blk_alloc ?_ _)); exact BK221.out) hb); have n3_ := Aside0.mk (blk_below (g := gb231) (o := .cells #[.int .i64 t222, .int .i64 t223, .int .i64 t224, .int .i64 t225, .int .i64 t226, .int .i64 t227, .int .i64 t228, .int .i64 t229] 24 (0, 0)) (by (with_reducible repeat (first | refine blk_drewN ?_ _ | refine blk_drew ?_ | refine blk_alloc ?_ _)); exact BK231.out) hb); have n4_ := Aside0.mk (below_step (by repeat (first | (with_reducible first | exact HB.out | apply below_alloc | apply pw_below_drewN | apply below_drew1 | refine below_set ?_ GE210.out | refine below_set ?_ GE221.out | refine below_set ?_ GE231.out) | exact HB.out)) hb); clear BK210; clear BK221; clear BK231; clear HB; have HO234 := n0_; have BK210 := n1_; have BK221 := n2_; have BK231 := n3_; have HB := n4_; clear n0_ n1_ n2_ n3_ n4_; (try clear hb); (try clear hb2); (try clear hk); (try clear hi); (try clear ho0); have hcz59_0 : w58.cell? ⟨gb210, 0, none⟩ = some (.int .i64 x211000_36) := (blk_cell BK210.out 0).trans rfl; have hcz59_1 : w58.cell? ⟨gb210, 1, none⟩ = some (.int .i64 x211001_36) := (blk_cell BK210.out 1).trans rfl; have hcz59_2 : w58.cell? ⟨gb210, 2, none⟩ = some (.int .i64 x211002_36) := (blk_cell BK210.out 2).trans rfl; have hcz59_3 : w58.cell? ⟨gb210, 3, none⟩ = some (.int .i64 x211003_36) := (blk_cell BK210.out 3).trans rfl; have hcz59_4 : w58.cell? ⟨gb210, 4, none⟩ = some (.int .i64 x211004_36) := (blk_cell BK210.out 4).trans rfl; have hcz59_5 : w58.cell? ⟨gb210, 5, none⟩ = some (.int .i64 x211005_36) := (blk_cell BK210.out 5).trans rfl; have hcz59_6 : w58.cell? ⟨gb210, 6, none⟩ = some (.int .i64 x211006_36) := (blk_cell BK210.out 6).trans rfl; have hcz59_7 : w58.cell? ⟨gb210, 7, none⟩ = some (.int .i64 x211007_36) := (blk_cell BK210.out 7).trans rfl; have hfz59_0 := blk_frozen BK210.out 0; have hfz59_1 := blk_frozen BK210.out 1; have hfz59_2 := blk_frozen BK210.out 2; have hfz59_3 := blk_frozen BK210.out 3; have hfz59_4 := blk_frozen BK210.out 4; have hfz59_5 := blk_frozen BK210.out 5; have hfz59_6 := blk_frozen BK210.out 6; have hfz59_7 := blk_frozen BK210.out 7) | ((with_reducible refine gate_callee (f := 12) rfl ?_); refine goesL_ (some 56) rfl rfl Try.func12 (by kernel_rfl) rfl #[.agg #[.int .i64 x211000_36, .int .i64 x211001_36, .int .i64 x211002_36, .int .i64 x211003_36, .int .i64 x211004_36, .int .i64 x211005_36, .int .i64 x211006_36, .int .i64 x211007_36]] rfl (by (try simp only [List.map_toArray, List.map_cons, List.map_nil]); first | done | rfl | (simp only [List.length_drop, List.length_take]; rfl)) ?_; (with_reducible refine (undercroftref06_Encode.calls kj36 x211000_36 x211001_36 x211002_36 x211003_36 x211004_36 x211005_36 x211006_36 x211007_36 t236 t239 _ A45.out).mono ?_); rintro e w60 ⟨v237, rfl, ho0, hb⟩; refine ⟨_, rfl, ?_⟩; have n0_ := Aside0.mk (Kd.R_elder' (by (with_reducible repeat (first | apply Kd.R_alloc | apply Kd.R_drewN | apply Kd.R_drew)); exact HO234.out) (Kd.R_base ho0) hb); have n1_ := Aside0.mk (Kd.R_lower (Kd.R_new' ho0 (Kd.R_lt (by (with_reducible repeat (first | apply Kd.R_alloc | apply Kd.R_drewN | apply Kd.R_drew)); exact HO234.out))) (below_size (by repeat (first | (with_reducible first | exact HB.out | apply below_alloc | apply pw_below_drewN | apply below_drew1 | refine below_set ?_ GE210.out | refine below_set ?_ GE221.out | refine below_set ?_ GE231.out) | exact HB.out)))); have n2_ := Aside0.mk (blk_below (g := gb210) (o := .cells #[.int .i64 x211000_36, .int .i64 x211001_36, .int .i64 x211002_36, .int .i64 x211003_36, .int .i64 x211004_36, .int .i64 x211005_36, .int .i64 x211006_36, .int .i64 x211007_36] 24 (0, 0)) (by (with_reducible repeat (first | refine blk_drewN ?_ _ | refine blk_drew ?_ | refine blk_alloc ?_ _)); exact BK210.out) hb); have n3_ := Aside0.mk (blk_below (g := gb221) (o := .cells #[.int .i64 t212, .int .i64 t213, .int .i64 t214, .int .i64 t215, .int .i64 t216, .int .i64 t217, .int .i64 t218, .int .i64 t219] 24 (0, 0)) (by (with_reducible repeat (first | refine blk_drewN ?_ _ | refine blk_drew ?_ | refine blk_alloc ?_ _)); exact BK221.out) hb); have n4_ := Aside0.mk (blk_below (g := gb231) (o := .cells #[.int .i64 t222, .int .i64 t223, .int .i64 t224, .int .i64 t225, .int .i64 t226, .int .i64 t227, .int .i64 t228, .int .i64 t229] 24 (0, 0)) (by (with_reducible repeat (first | refine blk_drewN ?_ _ | refine blk_drew ?_ | refine blk_alloc ?_ _)); exact BK231.out) hb); have n5_ := Aside0.mk (below_step (by repeat (first | (with_reducible first | exact HB.out | apply below_alloc | apply pw_below_drewN | apply below_drew1 | refine below_set ?_ GE210.out | refine below_set ?_ GE221.out | refine below_set ?_ GE231.out) | exact HB.out)) hb); clear HO234; clear BK210; clear BK221; clear BK231; clear HB; have HO234 := n0_; have HO238 := n1_; have BK210 := n2_; have BK221 := n3_; have BK231 := n4_; have HB := n5_; clear n0_ n1_ n2_ n3_ n4_ n5_; (try clear hb); (try clear hb2); (try clear hk); (try clear hi); (try clear ho0); have hcz61_0 : w60.cell? ⟨gb210, 0, none⟩ = some (.int .i64 x211000_36) := (blk_cell BK210.out 0).trans rfl; have hcz61_1 : w60.cell? ⟨gb210, 1, none⟩ = some (.int .i64 x211001_36) := (blk_cell BK210.out 1).trans rfl; have hcz61_2 : w60.cell? ⟨gb210, 2, none⟩ = some (.int .i64 x211002_36) := (blk_cell BK210.out 2).trans rfl; have hcz61_3 : w60.cell? ⟨gb210, 3, none⟩ = some (.int .i64 x211003_36) := (blk_cell BK210.out 3).trans rfl; have hcz61_4 : w60.cell? ⟨gb210, 4, none⟩ = some (.int .i64 x211004_36) := (blk_cell BK210.out 4).trans rfl; have hcz61_5 : w60.cell? ⟨gb210, 5, none⟩ = some (.int .i64 x211005_36) := (blk_cell BK210.out 5).trans rfl; have hcz61_6 : w60.cell? ⟨gb210, 6, none⟩ = some (.int .i64 x211006_36) := (blk_cell BK210.out 6).trans rfl; have hcz61_7 : w60.cell? ⟨gb210, 7, none⟩ = some (.int .i64 x211007_36) := (blk_cell BK210.out 7).trans rfl; have hfz61_0 := blk_frozen BK210.out 0; have hfz61_1 := blk_frozen BK210.out 1; have hfz61_2 := blk_frozen BK210.out 2; have hfz61_3 := blk_frozen BK210.out 3; have hfz61_4 := blk_frozen BK210.out 4; have hfz61_5 := blk_frozen BK210.out 5; have hfz61_6 := blk_frozen BK210.out 6; have hfz61_7 := blk_frozen BK210.out 7) | ((with_reducible refine gate_callee (f := 13) rfl ?_); refine goesL_ (some 62) rfl rfl Try.func13 (by kernel_rfl) rfl #[.agg #[.int .i64 x211000_36, .int .i64 x211001_36, .int .i64 x211002_36, .int .i64 x211003_36, .int .i64 x211004_36, .int .i64 x211005_36, .int .i64 x211006_36, .int .i64 x211007_36], .int .i64 a2] rfl (by (try simp only [List.map_toArray, List.map_cons, List.map_nil]); first | done | rfl | (simp only [List.length_drop, List.length_take]; rfl)) ?_; (with_reducible refine (geom_Inode.calls x211000_36 x211001_36 x211002_36 x211003_36 x211004_36 x211005_36 x211006_36 x211007_36 a2 t240 t241 t242 _ A46.out).mono ?_); rintro e w62 ⟨rfl, hb⟩; refine ⟨_, rfl, ?_⟩; have n0_ := Aside0.mk (Kd.R_below (by (with_reducible repeat (first | apply Kd.R_alloc | apply Kd.R_drewN | apply Kd.R_drew)); exact HO234.out) hb); have n1_ := Aside0.mk (Kd.R_below (by (with_reducible repeat (first | apply Kd.R_alloc | apply Kd.R_drewN | apply Kd.R_drew)); exact HO238.out) hb); have n2_ := Aside0.mk (blk_below (g := gb210) (o := .cells #[.int .i64 x211000_36, .int .i64 x211001_36, .int .i64 x211002_36, .int .i64 x211003_36, .int .i64 x211004_36, .int .i64 x211005_36, .int .i64 x211006_36, .int .i64 x211007_36] 24 (0, 0)) (by (with_reducible repeat (first | refine blk_drewN ?_ _ | refine blk_drew ?_ | refine blk_alloc ?_ _)); exact BK210.out) hb); have n3_ := Aside0.mk (blk_below (g := gb221) (o := .cells #[.int .i64 t212, .int .i64 t213, .int .i64 t214, .int .i64 t215, .int .i64 t216, .int .i64 t217, .int .i64 t218, .int .i64 t219] 24 (0, 0)) (by (with_reducible repeat (first | refine blk_drewN ?_ _ | refine blk_drew ?_ | refine blk_alloc ?_ _)); exact BK221.out) hb); have n4_ := Aside0.mk (blk_below (g := gb231) (o := .cells #[.int .i64 t222, .int .i64 t223, .int .i64 t224, .int .i64 t225, .int .i64 t226, .int .i64 t227, .int .i64 t228, .int .i64 t229] 24 (0, 0)) (by (with_reducible repeat (first | refine blk_drewN ?_ _ | refine blk_drew ?_ | refine blk_alloc ?_ _)); exact BK231.out) hb); have n5_ := Aside0.mk (below_step (by repeat (first | (with_reducible first | exact HB.out | apply below_alloc | apply pw_below_drewN | apply below_drew1 | refine below_set ?_ GE210.out | refine below_set ?_ GE221.out | refine below_set ?_ GE231.out) | exact HB.out)) hb); clear HO234; clear HO238; clear BK210; clear BK221; clear BK231; clear HB; have HO234 := n0_; have HO238 := n1_; have BK210 := n2_; have BK221 := n3_; have BK231 := n4_; have HB := n5_; clear n0_ n1_ n2_ n3_ n4_ n5_; (try clear hb); (try clear hb2); (try clear hk); (try clear hi); have hcz63_0 : w62.cell? ⟨gb210, 0, none⟩ = some (.int .i64 x211000_36) := (blk_cell BK210.out 0).trans rfl; have hcz63_1 : w62.cell? ⟨gb210, 1, none⟩ = some (.int .i64 x211001_36) := (blk_cell BK210.out 1).trans rfl; have hcz63_2 : w62.cell? ⟨gb210, 2, none⟩ = some (.int .i64 x211002_36) := (blk_cell BK210.out 2).trans rfl; have hcz63_3 : w62.cell? ⟨gb210, 3, none⟩ = some (.int .i64 x211003_36) := (blk_cell BK210.out 3).trans rfl; have hcz63_4 : w62.cell? ⟨gb210, 4, none⟩ = some (.int .i64 x211004_36) := (blk_cell BK210.out 4).trans rfl; have hcz63_5 : w62.cell? ⟨gb210, 5, none⟩ = some (.int .i64 x211005_36) := (blk_cell BK210.out 5).trans rfl; have hcz63_6 : w62.cell? ⟨gb210, 6, none⟩ = some (.int .i64 x211006_36) := (blk_cell BK210.out 6).trans rfl; have hcz63_7 : w62.cell? ⟨gb210, 7, none⟩ = some (.int .i64 x211007_36) := (blk_cell BK210.out 7).trans rfl; have hfz63_0 := blk_frozen BK210.out 0; have hfz63_1 := blk_frozen BK210.out 1; have hfz63_2 := blk_frozen BK210.out 2; have hfz63_3 := blk_frozen BK210.out 3; have hfz63_4 := blk_frozen BK210.out 4; have hfz63_5 := blk_frozen BK210.out 5; have hfz63_6 := blk_frozen BK210.out 6; have hfz63_7 := blk_frozen BK210.out 7) | ((with_reducible refine gate_callee (f := 14) rfl ?_); refine goesL_ (some 69) rfl rfl Try.func14 (by kernel_rfl) rfl #[.agg #[.int .i64 x211000_36, .int .i64 x211001_36, .int .i64 x211002_36, .int .i64 x211003_36, .int .i64 x211004_36, .int .i64 x211005_36, .int .i64 x211006_36, .int .i64 x211007_36], .int .i64 a2] rfl (by (try simp only [List.map_toArray, List.map_cons, List.map_nil]); first | done | rfl | (simp only [List.length_drop, List.length_take]; rfl)) ?_; (with_reducible refine (undercroftref06_Inode.calls x211000_36 x211001_36 x211002_36 x211003_36 x211004_36 x211005_36 x211006_36 x211007_36 a2 t243 t244 t245 _ A47.out).mono ?_); rintro e w64 ⟨rfl, hb⟩; refine ⟨_, rfl, ?_⟩; have n0_ := Aside0.mk (Kd.R_below (by (with_reducible repeat (first | apply Kd.R_alloc | apply Kd.R_drewN | apply Kd.R_drew)); exact HO234.out) hb); have n1_ := Aside0.mk (Kd.R_below (by (with_reducible repeat (first | apply Kd.R_alloc | apply Kd.R_drewN | apply Kd.R_drew)); exact HO238.out) hb); have n2_ := Aside0.mk (blk_below (g := gb210) (o := .cells #[.int .i64 x211000_36, .int .i64 x211001_36, .int .i64 x211002_36, .int .i64 x211003_36, .int .i64 x211004_36, .int .i64 x211005_36, .int .i64 x211006_36, .int .i64 x211007_36] 24 (0, 0)) (by (with_reducible repeat (first | refine blk_drewN ?_ _ | refine blk_drew ?_ | refine blk_alloc ?_ _)); exact BK210.out) hb); have n3_ := Aside0.mk (blk_below (g := gb221) (o := .cells #[.int .i64 t212, .int .i64 t213, .int .i64 t214, .int .i64 t215, .int .i64 t216, .int .i64 t217, .int .i64 t218, .int .i64 t219] 24 (0, 0)) (by (with_reducible repeat (first | refine blk_drewN ?_ _ | refine blk_drew ?_ | refine blk_alloc ?_ _)); exact BK221.out) hb); have n4_ := Aside0.mk (blk_below (g := gb231) (o := .cells #[.int .i64 t222, .int .i64 t223, .int .i64 t224, .int .i64 t225, .int .i64 t226, .int .i64 t227, .int .i64 t228, .int .i64 t229] 24 (0, 0)) (by (with_reducible repeat (first | refine blk_drewN ?_ _ | refine blk_drew ?_ | refine blk_alloc ?_ _)); exact BK231.out) hb); have n5_ := Aside0.mk (below_step (by repeat (first | (with_reducible first | exact HB.out | apply below_alloc | apply pw_below_drewN | apply below_drew1 | refine below_set ?_ GE210.out | refine below_set ?_ GE221.out | refine below_set ?_ GE231.out) | exact HB.out)) hb); clear HO234; clear HO238; clear BK210; clear BK221; clear BK231; clear HB; have HO234 := n0_; have HO238 := n1_; have BK210 := n2_; have BK221 := n3_; have BK231 := n4_; have HB := n5_; clear n0_ n1_ n2_ n3_ n4_ n5_; (try clear hb); (try clear hb2); (try clear hk); (try clear hi)))
                have n0_ := Aside0.mk (Kd.R_drew HO234.out)
                have n1_ := Aside0.mk (Kd.R_drew HO238.out)
                have n2_ := Aside0.mk (blk_drew BK210.out)
                have n3_ := Aside0.mk (blk_drew BK221.out)
                have n4_ := Aside0.mk (blk_drew BK231.out)
                have n5_ := Aside0.mk (below_drew1 HB.out)
                clear HO234
                clear HO238
                clear BK210
                clear BK221
                clear BK231
                clear HB
                have HO234 := n0_
                have HO238 := n1_
                have BK210 := n2_
                have BK221 := n3_
                have BK231 := n4_
                have HB := n5_
                clear n0_ n1_ n2_ n3_ n4_ n5_
                have hcv66 := own_string (P := Try.prog) Try.underlying28 Try.underlying5 Try.underlying9 (Kd.own_of_R HO234.out)
                have hcd67 := fun (nd_ : Nat) => own_string (P := Try.prog) Try.underlying28 Try.underlying5 Try.underlying9 (Kd.own_of_R (Kd.R_drewN HO234.out nd_))
                have hcv68 := own_string (P := Try.prog) Try.underlying28 Try.underlying5 Try.underlying9 (Kd.own_of_R HO238.out)
                have hcd69 := fun (nd_ : Nat) => own_string (P := Try.prog) Try.underlying28 Try.underlying5 Try.underlying9 (Kd.own_of_R (Kd.R_drewN HO238.out nd_))
                obtain ⟨hcv66T, hcv66H⟩ : ∃ T_ : World → Prop, T_ = X.cvS hcv66 := ⟨_, rfl⟩
                replace hcv66H := Aside0.mk hcv66H
                obtain ⟨hcv68T, hcv68H⟩ : ∃ T_ : World → Prop, T_ = X.cvS hcv68 := ⟨_, rfl⟩
                replace hcv68H := Aside0.mk hcv68H
                refine start_ (n := 35) (S := fun w' => w'.cell? ⟨gb210, 0, none⟩ = some (.int .i64 x211000_36) ∧ w'.cell? ⟨gb210, 1, none⟩ = some (.int .i64 x211001_36) ∧ w'.cell? ⟨gb210, 2, none⟩ = some (.int .i64 x211002_36) ∧ w'.cell? ⟨gb210, 3, none⟩ = some (.int .i64 x211003_36) ∧ w'.cell? ⟨gb210, 4, none⟩ = some (.int .i64 x211004_36) ∧ w'.cell? ⟨gb210, 5, none⟩ = some (.int .i64 x211005_36) ∧ w'.cell? ⟨gb210, 6, none⟩ = some (.int .i64 x211006_36) ∧ w'.cell? ⟨gb210, 7, none⟩ = some (.int .i64 x211007_36) ∧ hcv66T w' ∧ hcv68T w') (ds := []) #[false, false, false, false, false, false, false, false, false, false, false, false, false, false, false, false, false, false, false, false, false, false, false, false, false, false, false, false, false, false, false, false, false, false, false] (by kernel_rfl) rfl rfl ⟨(blk_cell BK210.out 0).trans rfl, (blk_cell BK210.out 1).trans rfl, (blk_cell BK210.out 2).trans rfl, (blk_cell BK210.out 3).trans rfl, (blk_cell BK210.out 4).trans rfl, (blk_cell BK210.out 5).trans rfl, (blk_cell BK210.out 6).trans rfl, (blk_cell BK210.out 7).trans rfl, (by rw [hcv66H.out]; exact own_string (P := Try.prog) Try.underlying28 Try.underlying5 Try.underlying9 (Kd.own_of_R HO234.out)), (by rw [hcv68H.out]; exact own_string (P := Try.prog) Try.underlying28 Try.underlying5 Try.underlying9 (Kd.own_of_R HO238.out))⟩ (fun hHeld => ?_); refine with_tabW undercroftlaw06_GeomTells.tab13 undercroftlaw06_GeomTells.bits13 (fun HT_ HW_ => ?_)
                generalize w64.drew = w65 at HO234 HO238 BK210 BK221 BK231 HB hHeld ⊢
                first
                  | (refine pure_ (i := 0) (N := some 73) (v := ?_) (a' := ?_) #[true, false, false, false, false, false, false, false, false, false, false, false, false, false, false, false, false, false, false, false, false, false, false, false, false, false, false, false, false, false, false, false, false, false, false] rfl rfl (any_of HT_.out (by kernel_rfl)) (fun _ _ _ h => h) (Or.inl ⟨by rfl, ?_⟩) ?_ ?_
                     rotate_left
                     · intro w'
                       go_simp
                       with_reducible rfl)
                  | (refine take_ (i := 0) (N := some 73) (v := ?_) (a' := ?_) #[true, false, false, false, false, false, false, false, false, false, false, false, false, false, false, false, false, false, false, false, false, false, false, false, false, false, false, false, false, false, false, false, false, false, false] rfl rfl (take_ofW HT_.out HW_.out (by kernel_rfl)) (fun _ _ _ h => h) (Or.inl ⟨by rfl, ?_⟩) hHeld ?_ ?_
                     rotate_left
                     · rintro w' ⟨s0, s1, s2, s3, s4, s5, s6, s7, cv0_, cv1_⟩
                       rw [hcv66H.out] at cv0_; unfold X.cvS at cv0_; rw [hcv68H.out] at cv1_; unfold X.cvS at cv1_
                       go_simp
                       with_reducible rfl)
                rotate_left
                · simp only [Act.put, List.setIfInBounds_toArray, List.set_cons_zero, List.set_cons_succ, i64_w, i32_w]
                  rfl
                first
                  | (refine pure_ (i := 1) (N := some 74) (v := ?_) (a' := ?_) #[true, true, false, false, false, false, false, false, false, false, false, false, false, false, false, false, false, false, false, false, false, false, false, false, false, false, false, false, false, false, false, false, false, false, false] rfl rfl (any_of HT_.out (by kernel_rfl)) (fun _ _ _ h => h) (Or.inl ⟨by rfl, ?_⟩) ?_ ?_
                     rotate_left
                     · intro w'
                       go_simp
                       with_reducible rfl)
                  | (refine take_ (i := 1) (N := some 74) (v := ?_) (a' := ?_) #[true, true, false, false, false, false, false, false, false, false, false, false, false, false, false, false, false, false, false, false, false, false, false, false, false, false, false, false, false, false, false, false, false, false, false] rfl rfl (take_ofW HT_.out HW_.out (by kernel_rfl)) (fun _ _ _ h => h) (Or.inl ⟨by rfl, ?_⟩) hHeld ?_ ?_
                     rotate_left
                     · rintro w' ⟨s0, s1, s2, s3, s4, s5, s6, s7, cv0_, cv1_⟩
                       rw [hcv66H.out] at cv0_; unfold X.cvS at cv0_; rw [hcv68H.out] at cv1_; unfold X.cvS at cv1_
                       go_simp
                       with_reducible rfl)
                rotate_left
                · simp only [Act.put, List.setIfInBounds_toArray, List.set_cons_zero, List.set_cons_succ, i64_w, i32_w]
                  rfl
                first
                  | (refine pure_ (i := 2) (N := some 75) (v := ?_) (a' := ?_) #[true, true, true, false, false, false, false, false, false, false, false, false, false, false, false, false, false, false, false, false, false, false, false, false, false, false, false, false, false, false, false, false, false, false, false] rfl rfl (any_of HT_.out (by kernel_rfl)) (fun _ _ _ h => h) (Or.inl ⟨by rfl, ?_⟩) ?_ ?_
                     rotate_left
                     · intro w'
                       go_simp
                       with_reducible rfl)
                  | (refine take_ (i := 2) (N := some 75) (v := ?_) (a' := ?_) #[true, true, true, false, false, false, false, false, false, false, false, false, false, false, false, false, false, false, false, false, false, false, false, false, false, false, false, false, false, false, false, false, false, false, false] rfl rfl (take_ofW HT_.out HW_.out (by kernel_rfl)) (fun _ _ _ h => h) (Or.inl ⟨by rfl, ?_⟩) hHeld ?_ ?_
                     rotate_left
                     · rintro w' ⟨s0, s1, s2, s3, s4, s5, s6, s7, cv0_, cv1_⟩
                       rw [hcv66H.out] at cv0_; unfold X.cvS at cv0_; rw [hcv68H.out] at cv1_; unfold X.cvS at cv1_
                       go_simp
                       with_reducible rfl)
                rotate_left
                · simp only [Act.put, List.setIfInBounds_toArray, List.set_cons_zero, List.set_cons_succ, i64_w, i32_w]
                  rfl
                first
                  | (refine pure_ (i := 3) (N := some 76) (v := ?_) (a' := ?_) #[true, true, true, true, false, false, false, false, false, false, false, false, false, false, false, false, false, false, false, false, false, false, false, false, false, false, false, false, false, false, false, false, false, false, false] rfl rfl (any_of HT_.out (by kernel_rfl)) (fun _ _ _ h => h) (Or.inl ⟨by rfl, ?_⟩) ?_ ?_
                     rotate_left
                     · intro w'
                       go_simp
                       with_reducible rfl)
                  | (refine take_ (i := 3) (N := some 76) (v := ?_) (a' := ?_) #[true, true, true, true, false, false, false, false, false, false, false, false, false, false, false, false, false, false, false, false, false, false, false, false, false, false, false, false, false, false, false, false, false, false, false] rfl rfl (take_ofW HT_.out HW_.out (by kernel_rfl)) (fun _ _ _ h => h) (Or.inl ⟨by rfl, ?_⟩) hHeld ?_ ?_
                     rotate_left
                     · rintro w' ⟨s0, s1, s2, s3, s4, s5, s6, s7, cv0_, cv1_⟩
                       rw [hcv66H.out] at cv0_; unfold X.cvS at cv0_; rw [hcv68H.out] at cv1_; unfold X.cvS at cv1_
                       go_simp
                       with_reducible rfl)
                rotate_left
                · simp only [Act.put, List.setIfInBounds_toArray, List.set_cons_zero, List.set_cons_succ, i64_w, i32_w]
                  rfl
                first
                  | (refine pure_ (i := 4) (N := some 77) (v := ?_) (a' := ?_) #[true, true, true, true, true, false, false, false, false, false, false, false, false, false, false, false, false, false, false, false, false, false, false, false, false, false, false, false, false, false, false, false, false, false, false] rfl rfl (any_of HT_.out (by kernel_rfl)) (fun _ _ _ h => h) (Or.inl ⟨by rfl, ?_⟩) ?_ ?_
                     rotate_left
                     · intro w'
                       go_simp
                       with_reducible rfl)
                  | (refine take_ (i := 4) (N := some 77) (v := ?_) (a' := ?_) #[true, true, true, true, true, false, false, false, false, false, false, false, false, false, false, false, false, false, false, false, false, false, false, false, false, false, false, false, false, false, false, false, false, false, false] rfl rfl (take_ofW HT_.out HW_.out (by kernel_rfl)) (fun _ _ _ h => h) (Or.inl ⟨by rfl, ?_⟩) hHeld ?_ ?_
                     rotate_left
                     · rintro w' ⟨s0, s1, s2, s3, s4, s5, s6, s7, cv0_, cv1_⟩
                       rw [hcv66H.out] at cv0_; unfold X.cvS at cv0_; rw [hcv68H.out] at cv1_; unfold X.cvS at cv1_
                       go_simp
                       with_reducible rfl)
                rotate_left
                · simp only [Act.put, List.setIfInBounds_toArray, List.set_cons_zero, List.set_cons_succ, i64_w, i32_w]
                  rfl
                first
                  | (refine pure_ (i := 5) (N := some 78) (v := ?_) (a' := ?_) #[true, true, true, true, true, true, false, false, false, false, false, false, false, false, false, false, false, false, false, false, false, false, false, false, false, false, false, false, false, false, false, false, false, false, false] rfl rfl (any_of HT_.out (by kernel_rfl)) (fun _ _ _ h => h) (Or.inl ⟨by rfl, ?_⟩) ?_ ?_
                     rotate_left
                     · intro w'
                       go_simp
                       with_reducible rfl)
                  | (refine take_ (i := 5) (N := some 78) (v := ?_) (a' := ?_) #[true, true, true, true, true, true, false, false, false, false, false, false, false, false, false, false, false, false, false, false, false, false, false, false, false, false, false, false, false, false, false, false, false, false, false] rfl rfl (take_ofW HT_.out HW_.out (by kernel_rfl)) (fun _ _ _ h => h) (Or.inl ⟨by rfl, ?_⟩) hHeld ?_ ?_
                     rotate_left
                     · rintro w' ⟨s0, s1, s2, s3, s4, s5, s6, s7, cv0_, cv1_⟩
                       rw [hcv66H.out] at cv0_; unfold X.cvS at cv0_; rw [hcv68H.out] at cv1_; unfold X.cvS at cv1_
                       go_simp
                       with_reducible rfl)
                rotate_left
                · simp only [Act.put, List.setIfInBounds_toArray, List.set_cons_zero, List.set_cons_succ, i64_w, i32_w]
                  rfl
                first
                  | (refine pure_ (i := 6) (N := some 79) (v := ?_) (a' := ?_) #[true, true, true, true, true, true, true, false, false, false, false, false, false, false, false, false, false, false, false, false, false, false, false, false, false, false, false, false, false, false, false, false, false, false, false] rfl rfl (any_of HT_.out (by kernel_rfl)) (fun _ _ _ h => h) (Or.inl ⟨by rfl, ?_⟩) ?_ ?_
                     rotate_left
                     · intro w'
                       go_simp
                       with_reducible rfl)
                  | (refine take_ (i := 6) (N := some 79) (v := ?_) (a' := ?_) #[true, true, true, true, true, true, true, false, false, false, false, false, false, false, false, false, false, false, false, false, false, false, false, false, false, false, false, false, false, false, false, false, false, false, false] rfl rfl (take_ofW HT_.out HW_.out (by kernel_rfl)) (fun _ _ _ h => h) (Or.inl ⟨by rfl, ?_⟩) hHeld ?_ ?_
                     rotate_left
                     · rintro w' ⟨s0, s1, s2, s3, s4, s5, s6, s7, cv0_, cv1_⟩
                       rw [hcv66H.out] at cv0_; unfold X.cvS at cv0_; rw [hcv68H.out] at cv1_; unfold X.cvS at cv1_
                       go_simp
                       with_reducible rfl)
                rotate_left
                · simp only [Act.put, List.setIfInBounds_toArray, List.set_cons_zero, List.set_cons_succ, i64_w, i32_w]
                  rfl
                first
                  | (refine pure_ (i := 7) (N := some 80) (v := ?_) (a' := ?_) #[true, true, true, true, true, true, true, true, false, false, false, false, false, false, false, false, false, false, false, false, false, false, false, false, false, false, false, false, false, false, false, false, false, false, false] rfl rfl (any_of HT_.out (by kernel_rfl)) (fun _ _ _ h => h) (Or.inl ⟨by rfl, ?_⟩) ?_ ?_
                     rotate_left
                     · intro w'
                       go_simp
                       with_reducible rfl)
                  | (refine take_ (i := 7) (N := some 80) (v := ?_) (a' := ?_) #[true, true, true, true, true, true, true, true, false, false, false, false, false, false, false, false, false, false, false, false, false, false, false, false, false, false, false, false, false, false, false, false, false, false, false] rfl rfl (take_ofW HT_.out HW_.out (by kernel_rfl)) (fun _ _ _ h => h) (Or.inl ⟨by rfl, ?_⟩) hHeld ?_ ?_
                     rotate_left
                     · rintro w' ⟨s0, s1, s2, s3, s4, s5, s6, s7, cv0_, cv1_⟩
                       rw [hcv66H.out] at cv0_; unfold X.cvS at cv0_; rw [hcv68H.out] at cv1_; unfold X.cvS at cv1_
                       go_simp
                       with_reducible rfl)
                rotate_left
                · simp only [Act.put, List.setIfInBounds_toArray, List.set_cons_zero, List.set_cons_succ, i64_w, i32_w]
                  rfl
                first
                  | (refine pure_ (i := 8) (N := some 81) (v := ?_) (a' := ?_) #[true, true, true, true, true, true, true, true, true, false, false, false, false, false, false, false, false, false, false, false, false, false, false, false, false, false, false, false, false, false, false, false, false, false, false] rfl rfl (any_of HT_.out (by kernel_rfl)) (fun _ _ _ h => h) (Or.inl ⟨by rfl, ?_⟩) ?_ ?_
                     rotate_left
                     · intro w'
                       go_simp
                       with_reducible rfl)
                  | (refine take_ (i := 8) (N := some 81) (v := ?_) (a' := ?_) #[true, true, true, true, true, true, true, true, true, false, false, false, false, false, false, false, false, false, false, false, false, false, false, false, false, false, false, false, false, false, false, false, false, false, false] rfl rfl (take_ofW HT_.out HW_.out (by kernel_rfl)) (fun _ _ _ h => h) (Or.inl ⟨by rfl, ?_⟩) hHeld ?_ ?_
                     rotate_left
                     · rintro w' ⟨s0, s1, s2, s3, s4, s5, s6, s7, cv0_, cv1_⟩
                       rw [hcv66H.out] at cv0_; unfold X.cvS at cv0_; rw [hcv68H.out] at cv1_; unfold X.cvS at cv1_
                       go_simp
                       with_reducible rfl)
                rotate_left
                · simp only [Act.put, List.setIfInBounds_toArray, List.set_cons_zero, List.set_cons_succ, i64_w, i32_w]
                  rfl
                first
                  | (refine pure_ (i := 9) (N := some 82) (v := ?_) (a' := ?_) #[true, true, true, true, true, true, true, true, true, true, false, false, false, false, false, false, false, false, false, false, false, false, false, false, false, false, false, false, false, false, false, false, false, false, false] rfl rfl (any_of HT_.out (by kernel_rfl)) (fun _ _ _ h => h) (Or.inl ⟨by rfl, ?_⟩) ?_ ?_
                     rotate_left
                     · intro w'
                       go_simp
                       with_reducible rfl)
                  | (refine take_ (i := 9) (N := some 82) (v := ?_) (a' := ?_) #[true, true, true, true, true, true, true, true, true, true, false, false, false, false, false, false, false, false, false, false, false, false, false, false, false, false, false, false, false, false, false, false, false, false, false] rfl rfl (take_ofW HT_.out HW_.out (by kernel_rfl)) (fun _ _ _ h => h) (Or.inl ⟨by rfl, ?_⟩) hHeld ?_ ?_
                     rotate_left
                     · rintro w' ⟨s0, s1, s2, s3, s4, s5, s6, s7, cv0_, cv1_⟩
                       rw [hcv66H.out] at cv0_; unfold X.cvS at cv0_; rw [hcv68H.out] at cv1_; unfold X.cvS at cv1_
                       go_simp
                       with_reducible rfl)
                rotate_left
                · simp only [Act.put, List.setIfInBounds_toArray, List.set_cons_zero, List.set_cons_succ, i64_w, i32_w]
                  rfl
                first
                  | (refine pure_ (i := 10) (N := some 83) (v := ?_) (a' := ?_) #[true, true, true, true, true, true, true, true, true, true, true, false, false, false, false, false, false, false, false, false, false, false, false, false, false, false, false, false, false, false, false, false, false, false, false] rfl rfl (any_of HT_.out (by kernel_rfl)) (fun _ _ _ h => h) (Or.inl ⟨by rfl, ?_⟩) ?_ ?_
                     rotate_left
                     · intro w'
                       go_simp
                       with_reducible rfl)
                  | (refine take_ (i := 10) (N := some 83) (v := ?_) (a' := ?_) #[true, true, true, true, true, true, true, true, true, true, true, false, false, false, false, false, false, false, false, false, false, false, false, false, false, false, false, false, false, false, false, false, false, false, false] rfl rfl (take_ofW HT_.out HW_.out (by kernel_rfl)) (fun _ _ _ h => h) (Or.inl ⟨by rfl, ?_⟩) hHeld ?_ ?_
                     rotate_left
                     · rintro w' ⟨s0, s1, s2, s3, s4, s5, s6, s7, cv0_, cv1_⟩
                       rw [hcv66H.out] at cv0_; unfold X.cvS at cv0_; rw [hcv68H.out] at cv1_; unfold X.cvS at cv1_
                       go_simp
                       with_reducible rfl)
                rotate_left
                · simp only [Act.put, List.setIfInBounds_toArray, List.set_cons_zero, List.set_cons_succ, i64_w, i32_w]
                  rfl
                first
                  | (refine pure_ (i := 11) (N := some 84) (v := ?_) (a' := ?_) #[true, true, true, true, true, true, true, true, true, true, true, true, false, false, false, false, false, false, false, false, false, false, false, false, false, false, false, false, false, false, false, false, false, false, false] rfl rfl (any_of HT_.out (by kernel_rfl)) (fun _ _ _ h => h) (Or.inl ⟨by rfl, ?_⟩) ?_ ?_
                     rotate_left
                     · intro w'
                       go_simp
                       with_reducible rfl)
                  | (refine take_ (i := 11) (N := some 84) (v := ?_) (a' := ?_) #[true, true, true, true, true, true, true, true, true, true, true, true, false, false, false, false, false, false, false, false, false, false, false, false, false, false, false, false, false, false, false, false, false, false, false] rfl rfl (take_ofW HT_.out HW_.out (by kernel_rfl)) (fun _ _ _ h => h) (Or.inl ⟨by rfl, ?_⟩) hHeld ?_ ?_
                     rotate_left
                     · rintro w' ⟨s0, s1, s2, s3, s4, s5, s6, s7, cv0_, cv1_⟩
                       rw [hcv66H.out] at cv0_; unfold X.cvS at cv0_; rw [hcv68H.out] at cv1_; unfold X.cvS at cv1_
                       go_simp
                       with_reducible rfl)
                rotate_left
                · simp only [Act.put, List.setIfInBounds_toArray, List.set_cons_zero, List.set_cons_succ, i64_w, i32_w]
                  rfl
                first
                  | (refine pure_ (i := 12) (N := some 85) (v := ?_) (a' := ?_) #[true, true, true, true, true, true, true, true, true, true, true, true, true, false, false, false, false, false, false, false, false, false, false, false, false, false, false, false, false, false, false, false, false, false, false] rfl rfl (any_of HT_.out (by kernel_rfl)) (fun _ _ _ h => h) (Or.inl ⟨by rfl, ?_⟩) ?_ ?_
                     rotate_left
                     · intro w'
                       go_simp
                       with_reducible rfl)
                  | (refine take_ (i := 12) (N := some 85) (v := ?_) (a' := ?_) #[true, true, true, true, true, true, true, true, true, true, true, true, true, false, false, false, false, false, false, false, false, false, false, false, false, false, false, false, false, false, false, false, false, false, false] rfl rfl (take_ofW HT_.out HW_.out (by kernel_rfl)) (fun _ _ _ h => h) (Or.inl ⟨by rfl, ?_⟩) hHeld ?_ ?_
                     rotate_left
                     · rintro w' ⟨s0, s1, s2, s3, s4, s5, s6, s7, cv0_, cv1_⟩
                       rw [hcv66H.out] at cv0_; unfold X.cvS at cv0_; rw [hcv68H.out] at cv1_; unfold X.cvS at cv1_
                       go_simp
                       with_reducible rfl)
                rotate_left
                · simp only [Act.put, List.setIfInBounds_toArray, List.set_cons_zero, List.set_cons_succ, i64_w, i32_w]
                  rfl
                first
                  | (refine pure_ (i := 13) (N := some 86) (v := ?_) (a' := ?_) #[true, true, true, true, true, true, true, true, true, true, true, true, true, true, false, false, false, false, false, false, false, false, false, false, false, false, false, false, false, false, false, false, false, false, false] rfl rfl (any_of HT_.out (by kernel_rfl)) (fun _ _ _ h => h) (Or.inl ⟨by rfl, ?_⟩) ?_ ?_
                     rotate_left
                     · intro w'
                       go_simp
                       with_reducible rfl)
                  | (refine take_ (i := 13) (N := some 86) (v := ?_) (a' := ?_) #[true, true, true, true, true, true, true, true, true, true, true, true, true, true, false, false, false, false, false, false, false, false, false, false, false, false, false, false, false, false, false, false, false, false, false] rfl rfl (take_ofW HT_.out HW_.out (by kernel_rfl)) (fun _ _ _ h => h) (Or.inl ⟨by rfl, ?_⟩) hHeld ?_ ?_
                     rotate_left
                     · rintro w' ⟨s0, s1, s2, s3, s4, s5, s6, s7, cv0_, cv1_⟩
                       rw [hcv66H.out] at cv0_; unfold X.cvS at cv0_; rw [hcv68H.out] at cv1_; unfold X.cvS at cv1_
                       go_simp
                       with_reducible rfl)
                rotate_left
                · simp only [Act.put, List.setIfInBounds_toArray, List.set_cons_zero, List.set_cons_succ, i64_w, i32_w]
                  rfl
                first
                  | (refine pure_ (i := 14) (N := some 87) (v := ?_) (a' := ?_) #[true, true, true, true, true, true, true, true, true, true, true, true, true, true, true, false, false, false, false, false, false, false, false, false, false, false, false, false, false, false, false, false, false, false, false] rfl rfl (any_of HT_.out (by kernel_rfl)) (fun _ _ _ h => h) (Or.inl ⟨by rfl, ?_⟩) ?_ ?_
                     rotate_left
                     · intro w'
                       go_simp
                       with_reducible rfl)
                  | (refine take_ (i := 14) (N := some 87) (v := ?_) (a' := ?_) #[true, true, true, true, true, true, true, true, true, true, true, true, true, true, true, false, false, false, false, false, false, false, false, false, false, false, false, false, false, false, false, false, false, false, false] rfl rfl (take_ofW HT_.out HW_.out (by kernel_rfl)) (fun _ _ _ h => h) (Or.inl ⟨by rfl, ?_⟩) hHeld ?_ ?_
                     rotate_left
                     · rintro w' ⟨s0, s1, s2, s3, s4, s5, s6, s7, cv0_, cv1_⟩
                       rw [hcv66H.out] at cv0_; unfold X.cvS at cv0_; rw [hcv68H.out] at cv1_; unfold X.cvS at cv1_
                       go_simp
                       with_reducible rfl)
                rotate_left
                · simp only [Act.put, List.setIfInBounds_toArray, List.set_cons_zero, List.set_cons_succ, i64_w, i32_w]
                  rfl
                first
                  | (refine pure_ (i := 15) (N := some 88) (v := ?_) (a' := ?_) #[true, true, true, true, true, true, true, true, true, true, true, true, true, true, true, true, false, false, false, false, false, false, false, false, false, false, false, false, false, false, false, false, false, false, false] rfl rfl (any_of HT_.out (by kernel_rfl)) (fun _ _ _ h => h) (Or.inl ⟨by rfl, ?_⟩) ?_ ?_
                     rotate_left
                     · intro w'
                       go_simp
                       with_reducible rfl)
                  | (refine take_ (i := 15) (N := some 88) (v := ?_) (a' := ?_) #[true, true, true, true, true, true, true, true, true, true, true, true, true, true, true, true, false, false, false, false, false, false, false, false, false, false, false, false, false, false, false, false, false, false, false] rfl rfl (take_ofW HT_.out HW_.out (by kernel_rfl)) (fun _ _ _ h => h) (Or.inl ⟨by rfl, ?_⟩) hHeld ?_ ?_
                     rotate_left
                     · rintro w' ⟨s0, s1, s2, s3, s4, s5, s6, s7, cv0_, cv1_⟩
                       rw [hcv66H.out] at cv0_; unfold X.cvS at cv0_; rw [hcv68H.out] at cv1_; unfold X.cvS at cv1_
                       go_simp
                       with_reducible rfl)
                rotate_left
                · simp only [Act.put, List.setIfInBounds_toArray, List.set_cons_zero, List.set_cons_succ, i64_w, i32_w]
                  rfl
                first
                  | (refine pure_ (i := 16) (N := some 89) (v := ?_) (a' := ?_) #[true, true, true, true, true, true, true, true, true, true, true, true, true, true, true, true, true, false, false, false, false, false, false, false, false, false, false, false, false, false, false, false, false, false, false] rfl rfl (any_of HT_.out (by kernel_rfl)) (fun _ _ _ h => h) (Or.inl ⟨by rfl, ?_⟩) ?_ ?_
                     rotate_left
                     · intro w'
                       go_simp
                       with_reducible rfl)
                  | (refine take_ (i := 16) (N := some 89) (v := ?_) (a' := ?_) #[true, true, true, true, true, true, true, true, true, true, true, true, true, true, true, true, true, false, false, false, false, false, false, false, false, false, false, false, false, false, false, false, false, false, false] rfl rfl (take_ofW HT_.out HW_.out (by kernel_rfl)) (fun _ _ _ h => h) (Or.inl ⟨by rfl, ?_⟩) hHeld ?_ ?_
                     rotate_left
                     · rintro w' ⟨s0, s1, s2, s3, s4, s5, s6, s7, cv0_, cv1_⟩
                       rw [hcv66H.out] at cv0_; unfold X.cvS at cv0_; rw [hcv68H.out] at cv1_; unfold X.cvS at cv1_
                       go_simp
                       with_reducible rfl)
                rotate_left
                · simp only [Act.put, List.setIfInBounds_toArray, List.set_cons_zero, List.set_cons_succ, i64_w, i32_w]
                  rfl
                first
                  | (refine pure_ (i := 17) (N := some 90) (v := ?_) (a' := ?_) #[true, true, true, true, true, true, true, true, true, true, true, true, true, true, true, true, true, true, false, false, false, false, false, false, false, false, false, false, false, false, false, false, false, false, false] rfl rfl (any_of HT_.out (by kernel_rfl)) (fun _ _ _ h => h) (Or.inl ⟨by rfl, ?_⟩) ?_ ?_
                     rotate_left
                     · intro w'
                       go_simp
                       with_reducible rfl)
                  | (refine take_ (i := 17) (N := some 90) (v := ?_) (a' := ?_) #[true, true, true, true, true, true, true, true, true, true, true, true, true, true, true, true, true, true, false, false, false, false, false, false, false, false, false, false, false, false, false, false, false, false, false] rfl rfl (take_ofW HT_.out HW_.out (by kernel_rfl)) (fun _ _ _ h => h) (Or.inl ⟨by rfl, ?_⟩) hHeld ?_ ?_
                     rotate_left
                     · rintro w' ⟨s0, s1, s2, s3, s4, s5, s6, s7, cv0_, cv1_⟩
                       rw [hcv66H.out] at cv0_; unfold X.cvS at cv0_; rw [hcv68H.out] at cv1_; unfold X.cvS at cv1_
                       go_simp
                       with_reducible rfl)
                rotate_left
                · simp only [Act.put, List.setIfInBounds_toArray, List.set_cons_zero, List.set_cons_succ, i64_w, i32_w]
                  rfl
                first
                  | (refine pure_ (i := 18) (N := some 91) (v := ?_) (a' := ?_) #[true, true, true, true, true, true, true, true, true, true, true, true, true, true, true, true, true, true, true, false, false, false, false, false, false, false, false, false, false, false, false, false, false, false, false] rfl rfl (any_of HT_.out (by kernel_rfl)) (fun _ _ _ h => h) (Or.inl ⟨by rfl, ?_⟩) ?_ ?_
                     rotate_left
                     · intro w'
                       go_simp
                       with_reducible rfl)
                  | (refine take_ (i := 18) (N := some 91) (v := ?_) (a' := ?_) #[true, true, true, true, true, true, true, true, true, true, true, true, true, true, true, true, true, true, true, false, false, false, false, false, false, false, false, false, false, false, false, false, false, false, false] rfl rfl (take_ofW HT_.out HW_.out (by kernel_rfl)) (fun _ _ _ h => h) (Or.inl ⟨by rfl, ?_⟩) hHeld ?_ ?_
                     rotate_left
                     · rintro w' ⟨s0, s1, s2, s3, s4, s5, s6, s7, cv0_, cv1_⟩
                       rw [hcv66H.out] at cv0_; unfold X.cvS at cv0_; rw [hcv68H.out] at cv1_; unfold X.cvS at cv1_
                       go_simp
                       with_reducible rfl)
                rotate_left
                · simp only [Act.put, List.setIfInBounds_toArray, List.set_cons_zero, List.set_cons_succ, i64_w, i32_w]
                  rfl
                first
                  | (refine pure_ (i := 19) (N := some 92) (v := ?_) (a' := ?_) #[true, true, true, true, true, true, true, true, true, true, true, true, true, true, true, true, true, true, true, true, false, false, false, false, false, false, false, false, false, false, false, false, false, false, false] rfl rfl (any_of HT_.out (by kernel_rfl)) (fun _ _ _ h => h) (Or.inl ⟨by rfl, ?_⟩) ?_ ?_
                     rotate_left
                     · intro w'
                       go_simp
                       with_reducible rfl)
                  | (refine take_ (i := 19) (N := some 92) (v := ?_) (a' := ?_) #[true, true, true, true, true, true, true, true, true, true, true, true, true, true, true, true, true, true, true, true, false, false, false, false, false, false, false, false, false, false, false, false, false, false, false] rfl rfl (take_ofW HT_.out HW_.out (by kernel_rfl)) (fun _ _ _ h => h) (Or.inl ⟨by rfl, ?_⟩) hHeld ?_ ?_
                     rotate_left
                     · rintro w' ⟨s0, s1, s2, s3, s4, s5, s6, s7, cv0_, cv1_⟩
                       rw [hcv66H.out] at cv0_; unfold X.cvS at cv0_; rw [hcv68H.out] at cv1_; unfold X.cvS at cv1_
                       go_simp
                       with_reducible rfl)
                rotate_left
                · simp only [Act.put, List.setIfInBounds_toArray, List.set_cons_zero, List.set_cons_succ, i64_w, i32_w]
                  rfl
                first
                  | (refine pure_ (i := 20) (N := some 93) (v := ?_) (a' := ?_) #[true, true, true, true, true, true, true, true, true, true, true, true, true, true, true, true, true, true, true, true, true, false, false, false, false, false, false, false, false, false, false, false, false, false, false] rfl rfl (any_of HT_.out (by kernel_rfl)) (fun _ _ _ h => h) (Or.inl ⟨by rfl, ?_⟩) ?_ ?_
                     rotate_left
                     · intro w'
                       go_simp
                       with_reducible rfl)
                  | (refine take_ (i := 20) (N := some 93) (v := ?_) (a' := ?_) #[true, true, true, true, true, true, true, true, true, true, true, true, true, true, true, true, true, true, true, true, true, false, false, false, false, false, false, false, false, false, false, false, false, false, false] rfl rfl (take_ofW HT_.out HW_.out (by kernel_rfl)) (fun _ _ _ h => h) (Or.inl ⟨by rfl, ?_⟩) hHeld ?_ ?_
                     rotate_left
                     · rintro w' ⟨s0, s1, s2, s3, s4, s5, s6, s7, cv0_, cv1_⟩
                       rw [hcv66H.out] at cv0_; unfold X.cvS at cv0_; rw [hcv68H.out] at cv1_; unfold X.cvS at cv1_
                       go_simp
                       with_reducible rfl)
                rotate_left
                · simp only [Act.put, List.setIfInBounds_toArray, List.set_cons_zero, List.set_cons_succ, i64_w, i32_w]
                  rfl
                first
                  | (refine pure_ (i := 21) (N := some 94) (v := ?_) (a' := ?_) #[true, true, true, true, true, true, true, true, true, true, true, true, true, true, true, true, true, true, true, true, true, true, false, false, false, false, false, false, false, false, false, false, false, false, false] rfl rfl (any_of HT_.out (by kernel_rfl)) (fun _ _ _ h => h) (Or.inl ⟨by rfl, ?_⟩) ?_ ?_
                     rotate_left
                     · intro w'
                       go_simp
                       with_reducible rfl)
                  | (refine take_ (i := 21) (N := some 94) (v := ?_) (a' := ?_) #[true, true, true, true, true, true, true, true, true, true, true, true, true, true, true, true, true, true, true, true, true, true, false, false, false, false, false, false, false, false, false, false, false, false, false] rfl rfl (take_ofW HT_.out HW_.out (by kernel_rfl)) (fun _ _ _ h => h) (Or.inl ⟨by rfl, ?_⟩) hHeld ?_ ?_
                     rotate_left
                     · rintro w' ⟨s0, s1, s2, s3, s4, s5, s6, s7, cv0_, cv1_⟩
                       rw [hcv66H.out] at cv0_; unfold X.cvS at cv0_; rw [hcv68H.out] at cv1_; unfold X.cvS at cv1_
                       go_simp
                       with_reducible rfl)
                rotate_left
                · simp only [Act.put, List.setIfInBounds_toArray, List.set_cons_zero, List.set_cons_succ, i64_w, i32_w]
                  rfl
                first
                  | (refine pure_ (i := 22) (N := some 95) (v := ?_) (a' := ?_) #[true, true, true, true, true, true, true, true, true, true, true, true, true, true, true, true, true, true, true, true, true, true, true, false, false, false, false, false, false, false, false, false, false, false, false] rfl rfl (any_of HT_.out (by kernel_rfl)) (fun _ _ _ h => h) (Or.inl ⟨by rfl, ?_⟩) ?_ ?_
                     rotate_left
                     · intro w'
                       go_simp
                       with_reducible rfl)
                  | (refine take_ (i := 22) (N := some 95) (v := ?_) (a' := ?_) #[true, true, true, true, true, true, true, true, true, true, true, true, true, true, true, true, true, true, true, true, true, true, true, false, false, false, false, false, false, false, false, false, false, false, false] rfl rfl (take_ofW HT_.out HW_.out (by kernel_rfl)) (fun _ _ _ h => h) (Or.inl ⟨by rfl, ?_⟩) hHeld ?_ ?_
                     rotate_left
                     · rintro w' ⟨s0, s1, s2, s3, s4, s5, s6, s7, cv0_, cv1_⟩
                       rw [hcv66H.out] at cv0_; unfold X.cvS at cv0_; rw [hcv68H.out] at cv1_; unfold X.cvS at cv1_
                       go_simp
                       with_reducible rfl)
                rotate_left
                · simp only [Act.put, List.setIfInBounds_toArray, List.set_cons_zero, List.set_cons_succ, i64_w, i32_w]
                  rfl
                first
                  | (refine pure_ (i := 23) (N := some 96) (v := ?_) (a' := ?_) #[true, true, true, true, true, true, true, true, true, true, true, true, true, true, true, true, true, true, true, true, true, true, true, true, false, false, false, false, false, false, false, false, false, false, false] rfl rfl (any_of HT_.out (by kernel_rfl)) (fun _ _ _ h => h) (Or.inl ⟨by rfl, ?_⟩) ?_ ?_
                     rotate_left
                     · intro w'
                       go_simp
                       with_reducible rfl)
                  | (refine take_ (i := 23) (N := some 96) (v := ?_) (a' := ?_) #[true, true, true, true, true, true, true, true, true, true, true, true, true, true, true, true, true, true, true, true, true, true, true, true, false, false, false, false, false, false, false, false, false, false, false] rfl rfl (take_ofW HT_.out HW_.out (by kernel_rfl)) (fun _ _ _ h => h) (Or.inl ⟨by rfl, ?_⟩) hHeld ?_ ?_
                     rotate_left
                     · rintro w' ⟨s0, s1, s2, s3, s4, s5, s6, s7, cv0_, cv1_⟩
                       rw [hcv66H.out] at cv0_; unfold X.cvS at cv0_; rw [hcv68H.out] at cv1_; unfold X.cvS at cv1_
                       go_simp
                       with_reducible rfl)
                rotate_left
                · simp only [Act.put, List.setIfInBounds_toArray, List.set_cons_zero, List.set_cons_succ, i64_w, i32_w]
                  rfl
                first
                  | (refine pure_ (i := 24) (N := some 97) (v := ?_) (a' := ?_) #[true, true, true, true, true, true, true, true, true, true, true, true, true, true, true, true, true, true, true, true, true, true, true, true, true, false, false, false, false, false, false, false, false, false, false] rfl rfl (any_of HT_.out (by kernel_rfl)) (fun _ _ _ h => h) (Or.inl ⟨by rfl, ?_⟩) ?_ ?_
                     rotate_left
                     · intro w'
                       go_simp
                       with_reducible rfl)
                  | (refine take_ (i := 24) (N := some 97) (v := ?_) (a' := ?_) #[true, true, true, true, true, true, true, true, true, true, true, true, true, true, true, true, true, true, true, true, true, true, true, true, true, false, false, false, false, false, false, false, false, false, false] rfl rfl (take_ofW HT_.out HW_.out (by kernel_rfl)) (fun _ _ _ h => h) (Or.inl ⟨by rfl, ?_⟩) hHeld ?_ ?_
                     rotate_left
                     · rintro w' ⟨s0, s1, s2, s3, s4, s5, s6, s7, cv0_, cv1_⟩
                       rw [hcv66H.out] at cv0_; unfold X.cvS at cv0_; rw [hcv68H.out] at cv1_; unfold X.cvS at cv1_
                       go_simp
                       with_reducible rfl)
                rotate_left
                · simp only [Act.put, List.setIfInBounds_toArray, List.set_cons_zero, List.set_cons_succ, i64_w, i32_w]
                  rfl
                first
                  | (refine pure_ (i := 25) (N := some 98) (v := ?_) (a' := ?_) #[true, true, true, true, true, true, true, true, true, true, true, true, true, true, true, true, true, true, true, true, true, true, true, true, true, true, false, false, false, false, false, false, false, false, false] rfl rfl (any_of HT_.out (by kernel_rfl)) (fun _ _ _ h => h) (Or.inl ⟨by rfl, ?_⟩) ?_ ?_
                     rotate_left
                     · intro w'
                       go_simp
                       with_reducible rfl)
                  | (refine take_ (i := 25) (N := some 98) (v := ?_) (a' := ?_) #[true, true, true, true, true, true, true, true, true, true, true, true, true, true, true, true, true, true, true, true, true, true, true, true, true, true, false, false, false, false, false, false, false, false, false] rfl rfl (take_ofW HT_.out HW_.out (by kernel_rfl)) (fun _ _ _ h => h) (Or.inl ⟨by rfl, ?_⟩) hHeld ?_ ?_
                     rotate_left
                     · rintro w' ⟨s0, s1, s2, s3, s4, s5, s6, s7, cv0_, cv1_⟩
                       rw [hcv66H.out] at cv0_; unfold X.cvS at cv0_; rw [hcv68H.out] at cv1_; unfold X.cvS at cv1_
                       go_simp
                       with_reducible rfl)
                rotate_left
                · simp only [Act.put, List.setIfInBounds_toArray, List.set_cons_zero, List.set_cons_succ, i64_w, i32_w]
                  rfl
                first
                  | (refine pure_ (i := 27) (N := some 100) (v := ?_) (a' := ?_) #[true, true, true, true, true, true, true, true, true, true, true, true, true, true, true, true, true, true, true, true, true, true, true, true, true, true, false, true, false, false, false, false, false, false, false] rfl rfl (any_of HT_.out (by kernel_rfl)) (fun _ _ _ h => h) (Or.inl ⟨by rfl, ?_⟩) ?_ ?_
                     rotate_left
                     · intro w'
                       go_simp
                       with_reducible rfl)
                  | (refine take_ (i := 27) (N := some 100) (v := ?_) (a' := ?_) #[true, true, true, true, true, true, true, true, true, true, true, true, true, true, true, true, true, true, true, true, true, true, true, true, true, true, false, true, false, false, false, false, false, false, false] rfl rfl (take_ofW HT_.out HW_.out (by kernel_rfl)) (fun _ _ _ h => h) (Or.inl ⟨by rfl, ?_⟩) hHeld ?_ ?_
                     rotate_left
                     · rintro w' ⟨s0, s1, s2, s3, s4, s5, s6, s7, cv0_, cv1_⟩
                       rw [hcv66H.out] at cv0_; unfold X.cvS at cv0_; rw [hcv68H.out] at cv1_; unfold X.cvS at cv1_
                       go_simp
                       with_reducible rfl)
                rotate_left
                · simp only [Act.put, List.setIfInBounds_toArray, List.set_cons_zero, List.set_cons_succ, i64_w, i32_w]
                  rfl
                first
                  | (refine pure_ (i := 30) (N := some 103) (v := ?_) (a' := ?_) #[true, true, true, true, true, true, true, true, true, true, true, true, true, true, true, true, true, true, true, true, true, true, true, true, true, true, false, true, false, false, true, false, false, false, false] rfl rfl (any_of HT_.out (by kernel_rfl)) (fun _ _ _ h => h) (Or.inl ⟨by rfl, ?_⟩) ?_ ?_
                     rotate_left
                     · intro w'
                       go_simp
                       with_reducible rfl)
                  | (refine take_ (i := 30) (N := some 103) (v := ?_) (a' := ?_) #[true, true, true, true, true, true, true, true, true, true, true, true, true, true, true, true, true, true, true, true, true, true, true, true, true, true, false, true, false, false, true, false, false, false, false] rfl rfl (take_ofW HT_.out HW_.out (by kernel_rfl)) (fun _ _ _ h => h) (Or.inl ⟨by rfl, ?_⟩) hHeld ?_ ?_
                     rotate_left
                     · rintro w' ⟨s0, s1, s2, s3, s4, s5, s6, s7, cv0_, cv1_⟩
                       rw [hcv66H.out] at cv0_; unfold X.cvS at cv0_; rw [hcv68H.out] at cv1_; unfold X.cvS at cv1_
                       go_simp
                       with_reducible rfl)
                rotate_left
                · simp only [Act.put, List.setIfInBounds_toArray, List.set_cons_zero, List.set_cons_succ, i64_w, i32_w]
                  rfl
                refine take_ (i := 26) (N := some 99) (v := ?_) (a' := ?_) #[true, true, true, true, true, true, true, true, true, true, true, true, true, true, true, true, true, true, true, true, true, true, true, true, true, true, true, true, false, false, true, false, false, false, false] rfl rfl (take_ofW HT_.out HW_.out (by kernel_rfl)) (fun _ _ _ h => h) (Or.inl ⟨by rfl, ?_⟩) hHeld ?_ ?_
                rotate_left
                · rintro w' ⟨s0, s1, s2, s3, s4, s5, s6, s7, cv0_, cv1_⟩
                  go_simp
                  with_reducible rfl
                rotate_left
                · simp only [Act.put, List.setIfInBounds_toArray, List.set_cons_zero, List.set_cons_succ, i64_w, i32_w]
                  rfl
                refine take_ (i := 29) (N := some 102) (v := ?_) (a' := ?_) #[true, true, true, true, true, true, true, true, true, true, true, true, true, true, true, true, true, true, true, true, true, true, true, true, true, true, true, true, false, true, true, false, false, false, false] rfl rfl (take_ofW HT_.out HW_.out (by kernel_rfl)) (fun _ _ _ h => h) (Or.inl ⟨by rfl, ?_⟩) hHeld ?_ ?_
                rotate_left
                · rintro w' ⟨s0, s1, s2, s3, s4, s5, s6, s7, cv0_, cv1_⟩
                  go_simp
                  with_reducible rfl
                rotate_left
                · simp only [Act.put, List.setIfInBounds_toArray, List.set_cons_zero, List.set_cons_succ, i64_w, i32_w]
                  rfl
                refine one_ (i := 28) (N := some 101) #[true, true, true, true, true, true, true, true, true, true, true, true, true, true, true, true, true, true, true, true, true, true, true, true, true, true, true, true, true, true, true, false, false, false, false] rfl rfl (one_of HT_.out (by kernel_rfl)) (by decide) (fun K hK => ?_)
                refine goes_ Try.func15 (by kernel_rfl) rfl #[.agg #[.int .i64 x211000_36, .int .i64 x211001_36, .int .i64 x211002_36, .int .i64 x211003_36, .int .i64 x211004_36, .int .i64 x211005_36, .int .i64 x211006_36, .int .i64 x211007_36], .int .i64 a2] (by rfl) rfl rfl (by (try simp only [List.map_toArray, List.map_cons, List.map_nil]); first | done | rfl | (simp only [List.length_drop, List.length_take]; rfl)) ?_
                with_reducible refine (geom_Where.calls x211000_36 x211001_36 x211002_36 x211003_36 x211004_36 x211005_36 x211006_36 x211007_36 a2 t246 _ A53.out).mono ?_
                rintro e w71 ⟨rfl, hb⟩
                refine ⟨_, rfl, ?_⟩
                have n0_ := Aside0.mk (Kd.R_below (by (with_reducible repeat (first | apply Kd.R_alloc | apply Kd.R_drewN | apply Kd.R_drew)); exact HO234.out) hb)
                have n1_ := Aside0.mk (Kd.R_below (by (with_reducible repeat (first | apply Kd.R_alloc | apply Kd.R_drewN | apply Kd.R_drew)); exact HO238.out) hb)
                have n2_ := Aside0.mk (blk_below (g := gb210) (o := .cells #[.int .i64 x211000_36, .int .i64 x211001_36, .int .i64 x211002_36, .int .i64 x211003_36, .int .i64 x211004_36, .int .i64 x211005_36, .int .i64 x211006_36, .int .i64 x211007_36] 24 (0, 0)) (by (with_reducible repeat (first | refine blk_drewN ?_ _ | refine blk_drew ?_ | refine blk_alloc ?_ _)); exact BK210.out) hb)
                have n3_ := Aside0.mk (blk_below (g := gb221) (o := .cells #[.int .i64 t212, .int .i64 t213, .int .i64 t214, .int .i64 t215, .int .i64 t216, .int .i64 t217, .int .i64 t218, .int .i64 t219] 24 (0, 0)) (by (with_reducible repeat (first | refine blk_drewN ?_ _ | refine blk_drew ?_ | refine blk_alloc ?_ _)); exact BK221.out) hb)
                have n4_ := Aside0.mk (blk_below (g := gb231) (o := .cells #[.int .i64 t222, .int .i64 t223, .int .i64 t224, .int .i64 t225, .int .i64 t226, .int .i64 t227, .int .i64 t228, .int .i64 t229] 24 (0, 0)) (by (with_reducible repeat (first | refine blk_drewN ?_ _ | refine blk_drew ?_ | refine blk_alloc ?_ _)); exact BK231.out) hb)
                have n5_ := Aside0.mk (below_step (by repeat (first | (with_reducible first | exact HB.out | apply below_alloc | apply pw_below_drewN | apply below_drew1 | refine below_set ?_ GE210.out | refine below_set ?_ GE221.out | refine below_set ?_ GE231.out) | exact HB.out)) hb)
                clear HO234
                clear HO238
                clear BK210
                clear BK221
                clear BK231
                clear HB
                have HO234 := n0_
                have HO238 := n1_
                have BK210 := n2_
                have BK221 := n3_
                have BK231 := n4_
                have HB := n5_
                clear n0_ n1_ n2_ n3_ n4_ n5_
                (try clear hb)
                (try clear hb2)
                (try clear hk)
                (try clear hi)
                refine hK.out _ _ ⟨(blk_cell BK210.out 0).trans rfl, (blk_cell BK210.out 1).trans rfl, (blk_cell BK210.out 2).trans rfl, (blk_cell BK210.out 3).trans rfl, (blk_cell BK210.out 4).trans rfl, (blk_cell BK210.out 5).trans rfl, (blk_cell BK210.out 6).trans rfl, (blk_cell BK210.out 7).trans rfl, (by rw [hcv66H.out]; exact own_string (P := Try.prog) Try.underlying28 Try.underlying5 Try.underlying9 (Kd.own_of_R HO234.out)), (by rw [hcv68H.out]; exact own_string (P := Try.prog) Try.underlying28 Try.underlying5 Try.underlying9 (Kd.own_of_R HO238.out))⟩ (fun hHeld => ?_)
                clear hK K
                refine norm_ (a' := ?_) ?_ ?_
                rotate_left
                · show Act.put _ (some 101) _ = _
                  simp only [Act.put, List.setIfInBounds_toArray, List.set_cons_zero, List.set_cons_succ, i64_w, i32_w]
                  rfl
                refine one_ (i := 31) (N := some 104) #[true, true, true, true, true, true, true, true, true, true, true, true, true, true, true, true, true, true, true, true, true, true, true, true, true, true, true, true, true, true, true, true, false, false, false] rfl rfl (one_of HT_.out (by kernel_rfl)) (by decide) (fun K hK => ?_)
                refine goes_ Try.func16 (by kernel_rfl) rfl #[.agg #[.int .i64 x211000_36, .int .i64 x211001_36, .int .i64 x211002_36, .int .i64 x211003_36, .int .i64 x211004_36, .int .i64 x211005_36, .int .i64 x211006_36, .int .i64 x211007_36], .int .i64 a2] (by rfl) rfl rfl (by (try simp only [List.map_toArray, List.map_cons, List.map_nil]); first | done | rfl | (simp only [List.length_drop, List.length_take]; rfl)) ?_
                with_reducible refine (undercroftref06_Where.calls kj36 x211000_36 x211001_36 x211002_36 x211003_36 x211004_36 x211005_36 x211006_36 x211007_36 a2 t247 _ A54.out).mono ?_
                rintro e w72 ⟨rfl, hb⟩
                refine ⟨_, rfl, ?_⟩
                have n0_ := Aside0.mk (Kd.R_below (by (with_reducible repeat (first | apply Kd.R_alloc | apply Kd.R_drewN | apply Kd.R_drew)); exact HO234.out) hb)
                have n1_ := Aside0.mk (Kd.R_below (by (with_reducible repeat (first | apply Kd.R_alloc | apply Kd.R_drewN | apply Kd.R_drew)); exact HO238.out) hb)
                have n2_ := Aside0.mk (blk_below (g := gb210) (o := .cells #[.int .i64 x211000_36, .int .i64 x211001_36, .int .i64 x211002_36, .int .i64 x211003_36, .int .i64 x211004_36, .int .i64 x211005_36, .int .i64 x211006_36, .int .i64 x211007_36] 24 (0, 0)) (by (with_reducible repeat (first | refine blk_drewN ?_ _ | refine blk_drew ?_ | refine blk_alloc ?_ _)); exact BK210.out) hb)
                have n3_ := Aside0.mk (blk_below (g := gb221) (o := .cells #[.int .i64 t212, .int .i64 t213, .int .i64 t214, .int .i64 t215, .int .i64 t216, .int .i64 t217, .int .i64 t218, .int .i64 t219] 24 (0, 0)) (by (with_reducible repeat (first | refine blk_drewN ?_ _ | refine blk_drew ?_ | refine blk_alloc ?_ _)); exact BK221.out) hb)
                have n4_ := Aside0.mk (blk_below (g := gb231) (o := .cells #[.int .i64 t222, .int .i64 t223, .int .i64 t224, .int .i64 t225, .int .i64 t226, .int .i64 t227, .int .i64 t228, .int .i64 t229] 24 (0, 0)) (by (with_reducible repeat (first | refine blk_drewN ?_ _ | refine blk_drew ?_ | refine blk_alloc ?_ _)); exact BK231.out) hb)
                have n5_ := Aside0.mk (below_step (by repeat (first | (with_reducible first | exact HB.out | apply below_alloc | apply pw_below_drewN | apply below_drew1 | refine below_set ?_ GE210.out | refine below_set ?_ GE221.out | refine below_set ?_ GE231.out) | exact HB.out)) hb)
                clear HO234
                clear HO238
                clear BK210
                clear BK221
                clear BK231
                clear HB
                have HO234 := n0_
                have HO238 := n1_
                have BK210 := n2_
                have BK221 := n3_
                have BK231 := n4_
                have HB := n5_
                clear n0_ n1_ n2_ n3_ n4_ n5_
                (try clear hb)
                (try clear hb2)
                (try clear hk)
                (try clear hi)
                refine hK.out _ _ ⟨(blk_cell BK210.out 0).trans rfl, (blk_cell BK210.out 1).trans rfl, (blk_cell BK210.out 2).trans rfl, (blk_cell BK210.out 3).trans rfl, (blk_cell BK210.out 4).trans rfl, (blk_cell BK210.out 5).trans rfl, (blk_cell BK210.out 6).trans rfl, (blk_cell BK210.out 7).trans rfl, (by rw [hcv66H.out]; exact own_string (P := Try.prog) Try.underlying28 Try.underlying5 Try.underlying9 (Kd.own_of_R HO234.out)), (by rw [hcv68H.out]; exact own_string (P := Try.prog) Try.underlying28 Try.underlying5 Try.underlying9 (Kd.own_of_R HO238.out))⟩ (fun hHeld => ?_)
                clear hK K
                refine norm_ (a' := ?_) ?_ ?_
                rotate_left
                · show Act.put _ (some 104) _ = _
                  simp only [Act.put, List.setIfInBounds_toArray, List.set_cons_zero, List.set_cons_succ, i64_w, i32_w]
                  rfl
                first
                  | (refine pure_ (i := 32) (N := some 105) (v := ?_) (a' := ?_) #[true, true, true, true, true, true, true, true, true, true, true, true, true, true, true, true, true, true, true, true, true, true, true, true, true, true, true, true, true, true, true, true, true, false, false] rfl rfl (any_of HT_.out (by kernel_rfl)) (fun _ _ _ h => h) (Or.inl ⟨by rfl, ?_⟩) ?_ ?_
                     rotate_left
                     · intro w'
                       go_simp
                       with_reducible rfl)
                  | (refine take_ (i := 32) (N := some 105) (v := ?_) (a' := ?_) #[true, true, true, true, true, true, true, true, true, true, true, true, true, true, true, true, true, true, true, true, true, true, true, true, true, true, true, true, true, true, true, true, true, false, false] rfl rfl (take_ofW HT_.out HW_.out (by kernel_rfl)) (fun _ _ _ h => h) (Or.inl ⟨by rfl, ?_⟩) hHeld ?_ ?_
                     rotate_left
                     · rintro w' ⟨s0, s1, s2, s3, s4, s5, s6, s7, cv0_, cv1_⟩
                       rw [hcv66H.out] at cv0_; unfold X.cvS at cv0_; rw [hcv68H.out] at cv1_; unfold X.cvS at cv1_
                       go_simp
                       with_reducible rfl)
                rotate_left
                · simp only [Act.put, List.setIfInBounds_toArray, List.set_cons_zero, List.set_cons_succ, i64_w, i32_w]
                  rfl
                first
                  | (refine pure_ (i := 33) (N := some 106) (v := ?_) (a' := ?_) #[true, true, true, true, true, true, true, true, true, true, true, true, true, true, true, true, true, true, true, true, true, true, true, true, true, true, true, true, true, true, true, true, true, true, false] rfl rfl (any_of HT_.out (by kernel_rfl)) (fun _ _ _ h => h) (Or.inl ⟨by rfl, ?_⟩) ?_ ?_
                     rotate_left
                     · intro w'
                       go_simp
                       with_reducible rfl)
                  | (refine take_ (i := 33) (N := some 106) (v := ?_) (a' := ?_) #[true, true, true, true, true, true, true, true, true, true, true, true, true, true, true, true, true, true, true, true, true, true, true, true, true, true, true, true, true, true, true, true, true, true, false] rfl rfl (take_ofW HT_.out HW_.out (by kernel_rfl)) (fun _ _ _ h => h) (Or.inl ⟨by rfl, ?_⟩) hHeld ?_ ?_
                     rotate_left
                     · rintro w' ⟨s0, s1, s2, s3, s4, s5, s6, s7, cv0_, cv1_⟩
                       rw [hcv66H.out] at cv0_; unfold X.cvS at cv0_; rw [hcv68H.out] at cv1_; unfold X.cvS at cv1_
                       go_simp
                       with_reducible rfl)
                rotate_left
                · simp only [Act.put, List.setIfInBounds_toArray, List.set_cons_zero, List.set_cons_succ, i64_w, i32_w]
                  rfl
                first
                  | (refine pure_ (i := 34) (N := some 6) (v := ?_) (a' := ?_) #[true, true, true, true, true, true, true, true, true, true, true, true, true, true, true, true, true, true, true, true, true, true, true, true, true, true, true, true, true, true, true, true, true, true, true] rfl rfl (any_of HT_.out (by kernel_rfl)) (fun _ _ _ h => h) (Or.inl ⟨by rfl, ?_⟩) ?_ ?_
                     rotate_left
                     · intro w'
                       go_simp
                       with_reducible rfl)
                  | (refine take_ (i := 34) (N := some 6) (v := ?_) (a' := ?_) #[true, true, true, true, true, true, true, true, true, true, true, true, true, true, true, true, true, true, true, true, true, true, true, true, true, true, true, true, true, true, true, true, true, true, true] rfl rfl (take_ofW HT_.out HW_.out (by kernel_rfl)) (fun _ _ _ h => h) (Or.inl ⟨by rfl, ?_⟩) hHeld ?_ ?_
                     rotate_left
                     · rintro w' ⟨s0, s1, s2, s3, s4, s5, s6, s7, cv0_, cv1_⟩
                       rw [hcv66H.out] at cv0_; unfold X.cvS at cv0_; rw [hcv68H.out] at cv1_; unfold X.cvS at cv1_
                       go_simp
                       with_reducible rfl)
                rotate_left
                · simp only [Act.put, List.setIfInBounds_toArray, List.set_cons_zero, List.set_cons_succ, i64_w, i32_w]
                  rfl
                refine done_ (done_of HT_.out (by kernel_rfl)) ?_
                try go_wp2
                go_ret
                exact ⟨by first | rfl | (simp [errW_none, errW_some] <;> rfl) | (simp [*, errW_none, errW_some] <;> rfl), by repeat (first | (with_reducible first | exact HB.out | apply below_alloc | apply pw_below_drewN | apply below_drew1 | refine below_set ?_ GE210.out | refine below_set ?_ GE221.out | refine below_set ?_ GE231.out) | exact HB.out)⟩
  · replace c5 := Bool.eq_false_iff.mpr c5
    subst c5
    have H1 : (some false) = some r := by rw [if_neg (show ¬ (false = true) by decide)] at H; exact H
    clear H
    have H := H1
    clear H1
    exact absurd (Option.some.inj H) (by rw [hT]; decide)

end Go.Proofs.Ytiaefbngegmpaaa.U
